/- Words and walks for the law RunSettles, joined and made small by a program of mine. -/
import Derived.Test.YtabmkighhmchmaaG2
import Derived.Test.YtabmkighhmchmaaG8
import Derived.Test.YtabmkighhmchmaaG6
import Derived.Test.YtabmkighhmchmaaG5
namespace Go.Proofs.Ytabmkighhmchmaa.X
open Go.RowKit Go.YW.PrintWords Go.YW.PrintLast Go.YW.PrintMore Go.YW.Sq
attribute [local go_sem] q0y q0w q1g q1f q0t q0s q0x q0v
set_option linter.unusedVariables false
set_option linter.unusedSimpArgs false
mutual
def Fa.j0 : Nat → Bool → ByteArray → ByteArray → List (S49) → Int → List (S51) → Option (Bool)
 | 0, _, _, _, _, _, _ => none
 | k + 1, a5, a1, a2, a3, a4, a0 => if a5 = true then (some false) else (Fa.l0 k a0 (a0.length : Int) 0 a1 a2 a3 a4 a0)
def Fa.l0 : Nat → List (S51) → Int → Int → ByteArray → ByteArray → List (S49) → Int → List (S51) → Option (Bool)
 | 0, _, _, _, _, _, _, _, _ => none
 | k + 1, a2, a8, a1, a3, a4, a0, a5, a6 => if a1 < a8 then (if 0 ≤ a1 then (if a1 < (a2.length : Int) then (if a1 < (a0.length : Int) then ((Fd.f k ((q0e a0 a1).f0) ((q0e a0 a1).f1) ((q0e a0 a1).f2) ((q0e a0 a1).f3) ((q0c a2 a1).f0) ((q0c a2 a1).f1) ((q0c a2 a1).f2) ((q0c a2 a1).f3) ((q0c a2 a1).f4)).bind fun a7 => (if a7 = true then (Fa.l1 k a1 0 a2 a8 a1 a3 a4 a0 a5 a6 ((q0c a2 a1).f0) ((q0c a2 a1).f1) ((q0c a2 a1).f2) ((q0c a2 a1).f3) ((q0c a2 a1).f4)) else (some false))) else (none)) else (none)) else (none)) else (some true)
def Fa.l1 : Nat → Int → Int → List (S51) → Int → Int → ByteArray → ByteArray → List (S49) → Int → List (S51) → Int → Int → Int → Int → ByteArray → Option (Bool)
 | 0, _, _, _, _, _, _, _, _, _, _, _, _, _, _, _ => none
 | k + 1, x3, x5, b0, b1, b2, a2, a3, a4, a5, a0, a6, a7, a8, a1, a9 => if x5 < x3 then (if a1 > 0 then (if 0 ≤ x5 then (if x5 < (a0.length : Int) then (if ((q0c a0 x5).f3) = a1 then (some false) else (Fa.l1 k x3 (wrap64 (x5 + 1)) b0 b1 b2 a2 a3 a4 a5 a0 a6 a7 a8 a1 a9)) else (none)) else (none)) else (Fa.l1 k x3 (wrap64 (x5 + 1)) b0 b1 b2 a2 a3 a4 a5 a0 a6 a7 a8 a1 a9)) else (if a6 = 0 then ((Fk.f k a2 a3 a4 a5 a0 x3).bind fun b3 => (Fa.j3 k x3 b0 b1 b2 b3 a2 a3 a4 a5 a0 a6 a7 a8 a1 a9)) else (Fa.j3 k x3 b0 b1 b2 false a2 a3 a4 a5 a0 a6 a7 a8 a1 a9))
def Fa.j3 : Nat → Int → List (S51) → Int → Int → Bool → ByteArray → ByteArray → List (S49) → Int → List (S51) → Int → Int → Int → Int → ByteArray → Option (Bool)
 | 0, _, _, _, _, _, _, _, _, _, _, _, _, _, _, _ => none
 | k + 1, x3, b1, b2, b3, b4, a0, a1, a2, a3, a4, a5, a6, a7, a8, a9 => if b4 = true then (some false) else (if a5 = 0 then (Fa.l0 k b1 b2 (wrap64 (b3 + 1)) a0 a1 a2 a3 a4) else (if a5 = 5 then (Fa.l0 k b1 b2 (wrap64 (b3 + 1)) a0 a1 a2 a3 a4) else ((Fk.f k a0 a1 a2 a3 a4 x3).bind fun b0 => (if b0 = true then (Fa.l0 k b1 b2 (wrap64 (b3 + 1)) a0 a1 a2 a3 a4) else (some false)))))
end
def Fa.f (k : Nat) (a0 : ByteArray) (a2 : ByteArray) (a1 : List (S49)) (a4 : Int) (a3 : List (S51)) : Option (Bool) := if (a0.size : Int) < 1 then (Fa.j0 k true a0 a2 a1 a4 a3) else (if (a0.size : Int) > 16 then (Fa.j0 k true a0 a2 a1 a4 a3) else ((Fi.f k a2 a1).bind fun a5 => (if a5 = 0 then (if (a3.length : Int) = (a1.length : Int) then ((Fr.f k a0 a2 a1 a4 a3).bind fun a6 => (Fa.j0 k (!a6) a0 a2 a1 a4 a3)) else (Fa.j0 k true a0 a2 a1 a4 a3)) else (Fa.j0 k true a0 a2 a1 a4 a3))))
def Fa.T6 : Bool × List (List Nat × List Nat) := (true, [([], []), ([0], [0]), ([1], [1]), ([], []), ([2, 3], [2, 3]), ([4], [4]), ([], []), ([5, 6], [5, 6]), ([7], [7])])
def Fa.B6 : List Nat := [0, 1, 3, 0, 15, 31, 0, 127, 255]
theorem Fa.tab6 : rtab .any (opsOf Try.f15 6) = Fa.T6 := by kernel_rfl
theorem Fa.bits6 : q4j Fa.T6.2 Fa.B6 = true := by kernel_rfl
def Fa.T11 : Bool × List (List Nat × List Nat) := (true, [([], []), ([0], [0]), ([1], [1]), ([2], [2]), ([3], [3]), ([4, 3], [3, 4]), ([3], [3]), ([5, 6, 3], [3, 5, 6]), ([7, 3], [3, 7]), ([8, 3], [3, 8]), ([3], [3]), ([10, 3], [3, 10]), ([9, 11, 3], [3, 9, 11]), ([3, 12], [3, 12])])
def Fa.B11 : List Nat := [0, 1, 3, 7, 15, 31, 15, 127, 255, 511, 15, 1039, 4095, 8191]
theorem Fa.tab11 : rtab .any (opsOf Try.f15 11) = Fa.T11 := by kernel_rfl
theorem Fa.bits11 : q4j Fa.T11.2 Fa.B11 = true := by kernel_rfl
set_option maxHeartbeats 8000000 in
set_option maxRecDepth 100000 in
theorem Fa.calls (k : Nat) (b7 : ByteArray) (d5 : ByteArray) (i2 : Option Addr) (f9 : Nat) (a5 : List (S49)) (d6 : Int) (i3 : Option Addr) (g0 : Nat) (a2 : List (S51)) (r : Bool) (w : World) (j5 : Kd.C k49 w i2 a5.length a5) (j2 : a5.length ≤ f9) (j6 : Kd.C k51 w i3 a2.length a2) (j4 : a2.length ≤ g0) (h : Fa.f k b7 d5 a5 d6 a2 = some r) :
  Calls Try.prog 15 #[.agg #[.string b7, .string d5, .slice i2 a5.length f9, .int .i64 d6, .slice i3 a2.length g0]] w fun e w' => e = .returned (.bool r) ∧ Below w.heap.size w w' := by
 have s8 := Try.underlying27
 have s7 := Try.underlying24
 have t0 := Try.underlying51
 have s9 := Try.underlying49
 have e2 := am j5
 have f8 := am j2
 clear j5 j2
 have f6 := am j6
 have h4 := am j4
 clear j6 j4
 have HB := am (Below.refl w.heap.size w)
 unfold Fa.f at h
 have H := h
 clear h
 have q0 := am H
 clear H
 go_enter Try.func15, Try.ntmps15
 go_upto_region 1 with (first | ((with_reducible refine gD 1 ?_); (try (refine q1e (by rfl) ?_; dsimp only)); refine bz 1 #[.string b7, .string d5, .slice i2 a5.length f9, .int .i64 d6, .slice i3 a2.length g0] 27 HB ?_; clear HB; intro a9 hg w3 hb a1 r3 HB; clear hb hg))
 (try simp only [Act.put, List.setIfInBounds_toArray, List.set_cons_zero, List.set_cons_succ])
 go_cut [36] (fun t1 wc => ∃ (kq : Nat) (h6 : Bool), t1 = .bool h6 ∧ q0f (Fa.j0 kq h6 b7 d5 a5 d6 a2 = some r) ∧ q0f (kq ≤ k) ∧ q0f (wc.heap[a9]? = some (.cells #[.string b7, .string d5, (.slice i2 a5.length f9), .int .i64 d6, (.slice i3 a2.length g0)] 27 (0, 0))) ∧ q0f (Below w.heap.size w wc))
 case first =>
  have H := q0.out
  clear q0
  by_cases c4 : (b7.size : Int) < 1
  ·
   rw [if_pos c4] at H
   have i5 := decide_eq_true c4
   have q1 : decide (b7.size < 1) = true := decide_eq_true (by omega)
   clear c4
   (first | rw [i5] | (simp only [q2r, q2u]; rw [i5]) | skip)
   have H' := am H
   clear H
   have q6 := y5 a1
   go_wp2
   go_meet
   case rel => exact ⟨_, (true), el, H', ol, ⟨pk a1.out⟩, ⟨pB HB.out⟩⟩
  rw [if_neg c4] at H
  have i5 := decide_eq_false c4
  have q1 : decide (b7.size < 1) = false := decide_eq_false (by omega)
  clear c4
  (first | rw [i5] | (simp only [q2r, q2u]; rw [i5]) | skip)
  by_cases c6 : (b7.size : Int) > 16
  ·
   rw [if_pos c6] at H
   have q2 := decide_eq_true c6
   have q3 : decide (16 < b7.size) = true := decide_eq_true (by omega)
   clear c6
   have H' := am H
   clear H
   have q7 := y5 a1
   go_wp2
   go_meet
   case rel => exact ⟨_, (true), el, H', ol, ⟨pk a1.out⟩, ⟨pB HB.out⟩⟩
  rw [if_neg c6] at H
  have q2 := decide_eq_false c6
  have q3 : decide (16 < b7.size) = false := decide_eq_false (by omega)
  clear c6
  replace H := Option.bind_eq_some_iff.mp H
  obtain ⟨i8, r2, H⟩ := H
  try dsimp only at H
  have A8 := am r2
  clear r2
  by_cases c9 : i8 = 0
  ·
   rw [if_pos c9] at H
   obtain ⟨q4, q5⟩ := qt c9
   clear c9
   by_cases i7 : (a2.length : Int) = (a5.length : Int)
   ·
    rw [if_pos i7] at H
    obtain ⟨l4, l5⟩ := qt i7
    have l6 : (a2.length == a5.length) = true := by first | simpa using i7 | (simp at i7 ⊢; omega)
    clear i7
    replace H := Option.bind_eq_some_iff.mp H
    obtain ⟨n9, k7, H⟩ := H
    try dsimp only at H
    have s5 := am k7
    clear k7
    have H' := am H
    clear H
    have o5 := y5 a1
    go_wp2_with (first | (go_at_call 11; (with_reducible refine (Fi.calls k d5 _ _ a5 i8 _ ?side1 ?side2 A8.out).mono ?_); (case side1 => exact (Kd.C_below e2.out (pB HB.out))); (case side2 => exact f8.out); rintro e t6 ⟨rfl, hb⟩; replace a1 := kB a1 hb; replace HB := bS HB hb; (try clear hb); have o6 := y5 a1) | (go_at_call 39; (with_reducible refine (Fr.calls k b7 d5 _ _ a5 d6 _ _ a2 n9 _ ?side1 ?side2 ?side3 ?side4 s5.out).mono ?_); (case side1 => exact (Kd.C_below e2.out (pB HB.out))); (case side2 => exact f8.out); (case side3 => exact (Kd.C_below f6.out (pB HB.out))); (case side4 => exact h4.out); rintro e t7 ⟨rfl, hb⟩; replace a1 := kB a1 hb; replace HB := bS HB hb; (try clear hb)))
    go_meet
    case rel => exact ⟨_, (!n9), el, H', ol, ⟨pk a1.out⟩, ⟨pB HB.out⟩⟩
   rw [if_neg i7] at H
   obtain ⟨l4, l5⟩ := qf i7
   have l6 : (a2.length == a5.length) = false := by first | simpa using i7 | (simp at i7 ⊢; omega)
   have H' := am H
   clear H
   have o7 := y5 a1
   go_wp2_with (first | (go_at_call 11; (with_reducible refine (Fi.calls k d5 _ _ a5 i8 _ ?side1 ?side2 A8.out).mono ?_); (case side1 => exact (Kd.C_below e2.out (pB HB.out))); (case side2 => exact f8.out); rintro e t8 ⟨rfl, hb⟩; replace a1 := kB a1 hb; replace HB := bS HB hb; (try clear hb); have o8 := y5 a1))
   go_meet
   case rel => exact ⟨_, (true), el, H', ol, ⟨pk a1.out⟩, ⟨pB HB.out⟩⟩
  rw [if_neg c9] at H
  obtain ⟨q4, q5⟩ := qf c9
  have H' := am H
  clear H
  have o9 := y5 a1
  go_wp2_with (first | (go_at_call 11; (with_reducible refine (Fi.calls k d5 _ _ a5 i8 _ ?side1 ?side2 A8.out).mono ?_); (case side1 => exact (Kd.C_below e2.out (pB HB.out))); (case side2 => exact f8.out); rintro e t9 ⟨rfl, hb⟩; replace a1 := kB a1 hb; replace HB := bS HB hb; (try clear hb)))
  go_meet
  case rel => exact ⟨_, (true), el, H', ol, ⟨pk a1.out⟩, ⟨pB HB.out⟩⟩
 case rest =>
  clear q0
  obtain ⟨kq, h6, rfl, HA, h9, a1, HB⟩ := hcut
  cases kq with
  | zero => exact absurd HA.out (by simp [Fa.j0])
  | succ s4 =>
   have H := HA.out
   clear HA
   simp only [Fa.j0] at H
   by_cases k5 : h6 = true
   ·
    subst k5
    rw [if_pos rfl] at H
    try dsimp only at H
    obtain rfl := Option.some.inj H
    go_wp2
    go_ret
    exact ⟨er, pB HB.out⟩
   replace k5 := Bool.eq_false_iff.mpr k5
   subst k5
   rw [if_neg (show ¬ (false = true) by decide)] at H
   try dsimp only at H
   have H' := am H
   clear H
   have g4 := y5 a1
   go_wp2
   go_loopg [40] s4 (fun kq t2 w' => ∃ (a0 : Int), t2 = .int .i64 a0 ∧ q0f (Fa.l0 kq a2 (a2.length : Int) a0 b7 d5 a5 d6 a2 = some r) ∧ q0f (kq ≤ s4) ∧ q0f (w'.heap[a9]? = some (.cells #[.string b7, .string d5, (.slice i2 a5.length f9), .int .i64 d6, (.slice i3 a2.length g0)] 27 (0, 0))) ∧ q0f (Below w.heap.size w w'))
   case atStart => exact ⟨(0), el, H', ⟨Nat.le_refl _⟩, ⟨pk a1.out⟩, ⟨pB HB.out⟩⟩
   case round =>
    clear H'
    try clear k5
    try clear g4
    try clear a1; try clear HB
    obtain ⟨a0, rfl, HA, i0, a1, HB⟩ := hrel
    cases gk with
    | zero => exact absurd HA.out (by simp [Fa.l0])
    | succ k2 =>
     have H := HA.out
     clear HA
     simp only [Fa.l0] at H
     by_cases j8 : a0 < (a2.length : Int)
     ·
      rw [if_pos j8] at H
      have i9 := decide_eq_true j8
      clear j8
      by_cases l7 : 0 ≤ a0
      ·
       rw [if_pos l7] at H
       have l8 := decide_eq_true l7
       clear l7
       by_cases l9 : a0 < (a2.length : Int)
       ·
        rw [if_pos l9] at H
        have m0 := decide_eq_true l9
        clear l9
        by_cases m1 : a0 < (a5.length : Int)
        ·
         rw [if_pos m1] at H
         have m2 := decide_eq_true m1
         clear m1
         replace H := Option.bind_eq_some_iff.mp H
         obtain ⟨q8, k8, H⟩ := H
         try dsimp only at H
         have r0 := am k8
         clear k8
         by_cases m3 : q8 = true
         ·
          subst m3
          rw [if_pos rfl] at H
          try dsimp only at H
          have H' := am H
          clear H
          have g5 : 0 ≤ (a0 : Int) := od
          have g7 : a0 < (a2.length : Int) := od
          obtain ⟨a7, k0, d7, d8, d9, e0, e1⟩ := q1u f6.out a0 g5 g7
          cases k0
          replace d7 := bX HB d7
          replace d8 := bX HB d8
          replace d9 := bX HB d9
          replace e0 := bX HB e0
          replace e1 := bX HB e1
          replace g5 := eq_true g5
          replace g7 := eq_true g7
          try go_wp2_with (first | ((with_reducible refine gD 4 ?_); (try (refine q1e (by rfl) ?_; dsimp only)); refine bz 4 #[.int .i64 0, .int .i64 0, .int .i64 0, .int .i64 0, .string (⟨#[]⟩ : ByteArray)] 51 HB ?_; clear HB; intro a4 hg t4 hb a3 l3 HB; have h8 := nL hg a1; have b1 := nG hg a1; replace a1 := kB a1 hb; clear hb hg; have r6 := nn b1; have h5 := y5 a3))
          obtain ⟨w32, hw⟩ : ∃ x, x = (((((t4.setCell ⟨a4, 0, none⟩ (.int .i64 ((q0c a2 a0).f0))).setCell ⟨a4, 1, none⟩ (.int .i64 ((q0c a2 a0).f1))).setCell ⟨a4, 2, none⟩ (.int .i64 ((q0c a2 a0).f2))).setCell ⟨a4, 3, none⟩ (.int .i64 ((q0c a2 a0).f3))).setCell ⟨a4, 4, none⟩ (.string ((q0c a2 a0).f4))) := ⟨_, rfl⟩
          have n6 := kW hw a1
          have n7 := pW (cs' := #[.int .i64 ((q0c a2 a0).f0), .int .i64 ((q0c a2 a0).f1), .int .i64 ((q0c a2 a0).f2), .int .i64 ((q0c a2 a0).f3), .string ((q0c a2 a0).f4)]) hw a3
          have n8 := bW hw HB
          (try clear a1)
          (try clear a3)
          (try clear HB)
          rw [← hw]
          clear hw
          have a1 := n6
          have a3 := n7
          have HB := n8
          clear n6 n7 n8
          replace a1 := am (q0g a1.out)
          replace a3 := am (q0g a3.out)
          replace HB := am (q0a HB.out)
          have g6 : 0 ≤ (a0 : Int) := od
          have g8 : a0 < (a5.length : Int) := od
          obtain ⟨b2, f7, g1, k1, b3, b4, b5, b6, e5, e4⟩ := q1q e2.out a0 g6 g8
          have c8 := b6
          have c7 := b5
          have b9 := b4
          have b8 := b3
          cases k1
          replace b3 := bX HB b3
          replace b4 := bX HB b4
          replace b5 := bX HB b5
          replace b6 := bX HB b6
          have e3 := am e4
          have g2 := am e5
          clear e4 e5
          replace g6 := eq_true g6
          replace g8 := eq_true g8
          refine q2i (n := 9) (S := fun w' => w'.cell? ⟨a9, 0, none⟩ = some (.string b7) ∧ w'.cell? ⟨a9, 1, none⟩ = some (.string d5) ∧ w'.cell? ⟨a9, 2, none⟩ = some (.slice (some b2) a5.length f9) ∧ w'.cell? ⟨a9, 3, none⟩ = some (.int .i64 d6) ∧ w'.cell? ⟨a9, 4, none⟩ = some (.slice (some a7) a2.length g0) ∧ w'.cell? ⟨a4, 0, none⟩ = some (.int .i64 ((q0c a2 a0).f0)) ∧ w'.cell? ⟨a4, 1, none⟩ = some (.int .i64 ((q0c a2 a0).f1)) ∧ w'.cell? ⟨a4, 2, none⟩ = some (.int .i64 ((q0c a2 a0).f2)) ∧ w'.cell? ⟨a4, 3, none⟩ = some (.int .i64 ((q0c a2 a0).f3)) ∧ w'.cell? ⟨a4, 4, none⟩ = some (.string ((q0c a2 a0).f4)) ∧ w'.cell? (b2.add ((a0).toNat * 4)) = some (.slice f7 ((q0e a5 a0).f0).length g1) ∧ w'.cell? ⟨(b2.add ((a0).toNat * 4)).block, (b2.add ((a0).toNat * 4)).off + 1, none⟩ = some (.int .i64 ((q0e a5 a0).f1)) ∧ w'.cell? ⟨(b2.add ((a0).toNat * 4)).block, (b2.add ((a0).toNat * 4)).off + 2, none⟩ = some (.int .i64 ((q0e a5 a0).f2)) ∧ w'.cell? ⟨(b2.add ((a0).toNat * 4)).block, (b2.add ((a0).toNat * 4)).off + 3, none⟩ = some (.int .i64 ((q0e a5 a0).f3))) (ds := []) (ba 9 0) (by kernel_rfl) rfl rfl ⟨bc a1.out, bc a1.out, bc a1.out, bc a1.out, bc a1.out, bc a3.out, bc a3.out, bc a3.out, bc a3.out, bc a3.out, ((HB.out.cell (World.block_lt_of_cell? w _ b8)).trans b8), ((HB.out.cell (World.block_lt_of_cell? w _ b9)).trans b9), ((HB.out.cell (World.block_lt_of_cell? w _ c7)).trans c7), ((HB.out.cell (World.block_lt_of_cell? w _ c8)).trans c8)⟩ (fun a8 => ?_); refine q2l Fa.tab6 Fa.bits6 (fun b0 g3 => ?_)
          generalize w32.drew = u0 at a1 a3 HB e3 b3 b4 b5 b6 a8 ⊢
          refine pu 0 45 (ba 9 1) b0 ?_
          refine pu 1 46 (ba 9 3) b0 ?_
          refine pu 3 48 (ba 9 11) b0 ?_
          refine tk 2 47 (ba 9 15) b0 g3 a8 ?_
          refine pu 4 49 (ba 9 31) b0 ?_
          refine tk 5 50 (ba 9 63) b0 g3 a8 ?_
          refine tk 6 51 (ba 9 127) b0 g3 a8 ?_
          refine one_ (i := 7) (N := some 52) (ba 9 255) rfl rfl (one_of b0.out (by kernel_rfl)) (by decide) (fun K hK => ?_)
          refine q2c Try.func40 (by kernel_rfl) rfl #[.agg #[.slice f7 ((q0e a5 a0).f0).length g1, .int .i64 ((q0e a5 a0).f1), .int .i64 ((q0e a5 a0).f2), .int .i64 ((q0e a5 a0).f3)], .agg #[.int .i64 ((q0c a2 a0).f0), .int .i64 ((q0c a2 a0).f1), .int .i64 ((q0c a2 a0).f2), .int .i64 ((q0c a2 a0).f3), .string ((q0c a2 a0).f4)]] (by rfl) rfl rfl (by (try simp only [List.map_toArray, List.map_cons, List.map_nil]); first | done | rfl | (simp only [List.length_drop, List.length_take]; rfl)) ?_
          with_reducible refine (Fd.calls k2 _ _ ((q0e a5 a0).f0) ((q0e a5 a0).f1) ((q0e a5 a0).f2) ((q0e a5 a0).f3) ((q0c a2 a0).f0) ((q0c a2 a0).f1) ((q0c a2 a0).f2) ((q0c a2 a0).f3) ((q0c a2 a0).f4) true _ ?side1 ?side2 r0.out).mono ?_
          (case side1 => exact (Kd.C_below e3.out (pB HB.out)))
          (case side2 => exact g2.out)
          rintro e u1 ⟨rfl, hb⟩
          refine ⟨_, rfl, ?_⟩
          replace a1 := kB a1 hb
          replace a3 := kB a3 hb
          replace HB := bS HB hb
          (try clear hb)
          (try clear hb2)
          (try clear hk)
          (try clear hi)
          refine hK.out _ _ ⟨bc a1.out, bc a1.out, bc a1.out, bc a1.out, bc a1.out, bc a3.out, bc a3.out, bc a3.out, bc a3.out, bc a3.out, ((HB.out.cell (World.block_lt_of_cell? w _ b8)).trans b8), ((HB.out.cell (World.block_lt_of_cell? w _ b9)).trans b9), ((HB.out.cell (World.block_lt_of_cell? w _ c7)).trans c7), ((HB.out.cell (World.block_lt_of_cell? w _ c8)).trans c8)⟩ (fun a8 => ?_)
          clear hK K
          refine nh ?_
          refine pu 8 53 (ba 9 511) b0 ?_
          refine q2a (q3p b0.out (by kernel_rfl)) ?_
          try go_wp2
          go_loopg [5] k2 (fun kq v5 w' => ∃ (a6 : Int), v5 = .int .i64 a6 ∧ q0f (Fa.l1 kq a0 a6 a2 (a2.length : Int) a0 b7 d5 a5 d6 a2 ((q0c a2 a0).f0) ((q0c a2 a0).f1) ((q0c a2 a0).f2) ((q0c a2 a0).f3) ((q0c a2 a0).f4) = some r) ∧ q0f (kq ≤ k2) ∧ q0f (w'.heap[a9]? = some (.cells #[.string b7, .string d5, (.slice (some b2) a5.length f9), .int .i64 d6, (.slice (some a7) a2.length g0)] 27 (0, 0))) ∧ q0f (w'.heap[a4]? = some (.cells #[.int .i64 ((q0c a2 a0).f0), .int .i64 ((q0c a2 a0).f1), .int .i64 ((q0c a2 a0).f2), .int .i64 ((q0c a2 a0).f3), .string ((q0c a2 a0).f4)] 51 (0, 0))) ∧ q0f (Below w.heap.size w w'))
          case atStart => exact ⟨(0), el, H', ⟨Nat.le_refl _⟩, ⟨pk a1.out⟩, ⟨pk a3.out⟩, ⟨pB HB.out⟩⟩
          case round =>
           clear H'
           try clear k5
           try clear j8
           try clear i9
           try clear l7
           try clear l8
           try clear l9
           try clear m0
           try clear m1
           try clear m2
           try clear m3
           try clear g4
           try clear h5
           try clear d7
           try clear d8
           try clear d9
           try clear e0
           try clear e1
           try clear b3
           try clear b4
           try clear b5
           try clear b6
           try clear g5
           try clear g6
           try clear g7
           try clear g8
           try clear a1; try clear a3; try clear HB
           obtain ⟨a6, rfl, HA, i1, a1, a3, HB⟩ := hrel
           cases gk with
           | zero => exact absurd HA.out (by simp [Fa.l1])
           | succ k3 =>
            have H := HA.out
            clear HA
            simp only [Fa.l1] at H
            by_cases j9 : a6 < a0
            ·
             rw [if_pos j9] at H
             have j1 := decide_eq_true j9
             clear j9
             by_cases k6 : ((q0c a2 a0).f3) > 0
             ·
              rw [if_pos k6] at H
              have m4 := decide_eq_true k6
              clear k6
              by_cases o1 : 0 ≤ a6
              ·
               rw [if_pos o1] at H
               have r4 := decide_eq_true o1
               clear o1
               by_cases o2 : a6 < (a2.length : Int)
               ·
                rw [if_pos o2] at H
                have r5 := decide_eq_true o2
                clear o2
                by_cases m5 : ((q0c a2 a6).f3) = ((q0c a2 a0).f3)
                ·
                 rw [if_pos m5] at H
                 obtain ⟨m6, m7⟩ := qt m5
                 clear m5
                 obtain rfl := Option.some.inj H
                 try go_wp2
                 replace a1 := am (q0g a1.out)
                 replace a3 := am (q0g a3.out)
                 replace HB := am (q0a HB.out)
                 have h2 : 0 ≤ (a6 : Int) := od
                 have h3 : a6 < (a2.length : Int) := od
                 obtain ⟨i4, k4, d0, d1, d2, d3, d4⟩ := q1u f6.out a6 h2 h3
                 have f5 := d4
                 have e9 := d3
                 have e8 := d2
                 have e7 := d1
                 have e6 := d0
                 obtain rfl : a7 = i4 := (by injection k4)
                 replace d0 := bX HB d0
                 replace d1 := bX HB d1
                 replace d2 := bX HB d2
                 replace d3 := bX HB d3
                 replace d4 := bX HB d4
                 replace h2 := eq_true h2
                 replace h3 := eq_true h3
                 refine q2i (n := 14) (S := fun w' => w'.cell? ⟨a4, 0, none⟩ = some (.int .i64 ((q0c a2 a0).f0)) ∧ w'.cell? ⟨a4, 1, none⟩ = some (.int .i64 ((q0c a2 a0).f1)) ∧ w'.cell? ⟨a4, 2, none⟩ = some (.int .i64 ((q0c a2 a0).f2)) ∧ w'.cell? ⟨a4, 3, none⟩ = some (.int .i64 ((q0c a2 a0).f3)) ∧ w'.cell? ⟨a4, 4, none⟩ = some (.string ((q0c a2 a0).f4)) ∧ w'.cell? ⟨a9, 0, none⟩ = some (.string b7) ∧ w'.cell? ⟨a9, 1, none⟩ = some (.string d5) ∧ w'.cell? ⟨a9, 2, none⟩ = some (.slice (some b2) a5.length f9) ∧ w'.cell? ⟨a9, 3, none⟩ = some (.int .i64 d6) ∧ w'.cell? ⟨a9, 4, none⟩ = some (.slice (some a7) a2.length g0) ∧ w'.cell? (a7.add ((a6).toNat * 5)) = some (.int .i64 ((q0c a2 a6).f0)) ∧ w'.cell? ⟨(a7.add ((a6).toNat * 5)).block, (a7.add ((a6).toNat * 5)).off + 1, none⟩ = some (.int .i64 ((q0c a2 a6).f1)) ∧ w'.cell? ⟨(a7.add ((a6).toNat * 5)).block, (a7.add ((a6).toNat * 5)).off + 2, none⟩ = some (.int .i64 ((q0c a2 a6).f2)) ∧ w'.cell? ⟨(a7.add ((a6).toNat * 5)).block, (a7.add ((a6).toNat * 5)).off + 3, none⟩ = some (.int .i64 ((q0c a2 a6).f3)) ∧ w'.cell? ⟨(a7.add ((a6).toNat * 5)).block, (a7.add ((a6).toNat * 5)).off + 4, none⟩ = some (.string ((q0c a2 a6).f4))) (ds := []) (ba 14 0) (by kernel_rfl) rfl rfl ⟨bc a3.out, bc a3.out, bc a3.out, bc a3.out, bc a3.out, bc a1.out, bc a1.out, bc a1.out, bc a1.out, bc a1.out, ((HB.out.cell (World.block_lt_of_cell? w _ e6)).trans e6), ((HB.out.cell (World.block_lt_of_cell? w _ e7)).trans e7), ((HB.out.cell (World.block_lt_of_cell? w _ e8)).trans e8), ((HB.out.cell (World.block_lt_of_cell? w _ e9)).trans e9), ((HB.out.cell (World.block_lt_of_cell? w _ f5)).trans f5)⟩ (fun a8 => ?_); refine q2l Fa.tab11 Fa.bits11 (fun b0 g3 => ?_)
                 generalize wr.drew = u2 at a1 a3 HB d0 d1 d2 d3 d4 a8 ⊢
                 refine pu 0 59 (ba 14 1) b0 ?_
                 refine tk 1 60 (ba 14 3) b0 g3 a8 ?_
                 refine pu 2 61 (ba 14 7) b0 ?_
                 refine pu 3 62 (ba 14 15) b0 ?_
                 refine pu 4 63 (ba 14 31) b0 ?_
                 refine pu 6 65 (ba 14 95) b0 ?_
                 refine pu 10 69 (ba 14 1119) b0 ?_
                 refine tk 5 64 (ba 14 1151) b0 g3 a8 ?_
                 refine pu 7 66 (ba 14 1279) b0 ?_
                 refine pu 8 67 (ba 14 1535) b0 ?_
                 refine tk 9 68 (ba 14 2047) b0 g3 a8 ?_
                 refine tk 11 70 (ba 14 4095) b0 g3 a8 ?_
                 refine pu 12 71 (ba 14 8191) b0 ?_
                 refine pu 13 72 (ba 14 16383) b0 ?_
                 refine q2a (q3p b0.out (by kernel_rfl)) ?_
                 try go_wp2
                 go_ret
                 exact ⟨er, pB HB.out⟩
                rw [if_neg m5] at H
                obtain ⟨m6, m7⟩ := qf m5
                have H' := am H
                clear H
                try go_wp2
                replace a1 := am (q0g a1.out)
                replace a3 := am (q0g a3.out)
                replace HB := am (q0a HB.out)
                have h2 : 0 ≤ (a6 : Int) := od
                have h3 : a6 < (a2.length : Int) := od
                obtain ⟨i4, k4, d0, d1, d2, d3, d4⟩ := q1u f6.out a6 h2 h3
                have f5 := d4
                have e9 := d3
                have e8 := d2
                have e7 := d1
                have e6 := d0
                obtain rfl : a7 = i4 := (by injection k4)
                replace d0 := bX HB d0
                replace d1 := bX HB d1
                replace d2 := bX HB d2
                replace d3 := bX HB d3
                replace d4 := bX HB d4
                replace h2 := eq_true h2
                replace h3 := eq_true h3
                refine q2i (n := 14) (S := fun w' => w'.cell? ⟨a4, 0, none⟩ = some (.int .i64 ((q0c a2 a0).f0)) ∧ w'.cell? ⟨a4, 1, none⟩ = some (.int .i64 ((q0c a2 a0).f1)) ∧ w'.cell? ⟨a4, 2, none⟩ = some (.int .i64 ((q0c a2 a0).f2)) ∧ w'.cell? ⟨a4, 3, none⟩ = some (.int .i64 ((q0c a2 a0).f3)) ∧ w'.cell? ⟨a4, 4, none⟩ = some (.string ((q0c a2 a0).f4)) ∧ w'.cell? ⟨a9, 0, none⟩ = some (.string b7) ∧ w'.cell? ⟨a9, 1, none⟩ = some (.string d5) ∧ w'.cell? ⟨a9, 2, none⟩ = some (.slice (some b2) a5.length f9) ∧ w'.cell? ⟨a9, 3, none⟩ = some (.int .i64 d6) ∧ w'.cell? ⟨a9, 4, none⟩ = some (.slice (some a7) a2.length g0) ∧ w'.cell? (a7.add ((a6).toNat * 5)) = some (.int .i64 ((q0c a2 a6).f0)) ∧ w'.cell? ⟨(a7.add ((a6).toNat * 5)).block, (a7.add ((a6).toNat * 5)).off + 1, none⟩ = some (.int .i64 ((q0c a2 a6).f1)) ∧ w'.cell? ⟨(a7.add ((a6).toNat * 5)).block, (a7.add ((a6).toNat * 5)).off + 2, none⟩ = some (.int .i64 ((q0c a2 a6).f2)) ∧ w'.cell? ⟨(a7.add ((a6).toNat * 5)).block, (a7.add ((a6).toNat * 5)).off + 3, none⟩ = some (.int .i64 ((q0c a2 a6).f3)) ∧ w'.cell? ⟨(a7.add ((a6).toNat * 5)).block, (a7.add ((a6).toNat * 5)).off + 4, none⟩ = some (.string ((q0c a2 a6).f4))) (ds := []) (ba 14 0) (by kernel_rfl) rfl rfl ⟨bc a3.out, bc a3.out, bc a3.out, bc a3.out, bc a3.out, bc a1.out, bc a1.out, bc a1.out, bc a1.out, bc a1.out, ((HB.out.cell (World.block_lt_of_cell? w _ e6)).trans e6), ((HB.out.cell (World.block_lt_of_cell? w _ e7)).trans e7), ((HB.out.cell (World.block_lt_of_cell? w _ e8)).trans e8), ((HB.out.cell (World.block_lt_of_cell? w _ e9)).trans e9), ((HB.out.cell (World.block_lt_of_cell? w _ f5)).trans f5)⟩ (fun a8 => ?_); refine q2l Fa.tab11 Fa.bits11 (fun b0 g3 => ?_)
                generalize wr.drew = u3 at a1 a3 HB d0 d1 d2 d3 d4 a8 ⊢
                refine pu 0 59 (ba 14 1) b0 ?_
                refine tk 1 60 (ba 14 3) b0 g3 a8 ?_
                refine pu 2 61 (ba 14 7) b0 ?_
                refine pu 3 62 (ba 14 15) b0 ?_
                refine pu 4 63 (ba 14 31) b0 ?_
                refine pu 6 65 (ba 14 95) b0 ?_
                refine pu 10 69 (ba 14 1119) b0 ?_
                refine tk 5 64 (ba 14 1151) b0 g3 a8 ?_
                refine pu 7 66 (ba 14 1279) b0 ?_
                refine pu 8 67 (ba 14 1535) b0 ?_
                refine tk 9 68 (ba 14 2047) b0 g3 a8 ?_
                refine tk 11 70 (ba 14 4095) b0 g3 a8 ?_
                refine pu 12 71 (ba 14 8191) b0 ?_
                refine pu 13 72 (ba 14 16383) b0 ?_
                refine q2a (q3p b0.out (by kernel_rfl)) ?_
                try go_wp2
                go_roundg k3
                case measure => have := h9.out; have := i0.out; have := i1.out; omega
                case rel => exact ⟨(wrap64 (a6 + 1)), el, H', ⟨by have := h9.out; have := i0.out; have := i1.out; omega⟩, ⟨pk a1.out⟩, ⟨pk a3.out⟩, ⟨pB HB.out⟩⟩
               rw [if_neg o2] at H
               exact absurd H (by simp)
              rw [if_neg o1] at H
              exact absurd H (by simp)
             rw [if_neg k6] at H
             have m4 := decide_eq_false k6
             clear k6
             have H' := am H
             clear H
             try go_wp2
             replace a1 := am (q0g a1.out)
             replace a3 := am (q0g a3.out)
             replace HB := am (q0a HB.out)
             refine q2i (n := 14) (S := fun w' => w'.cell? ⟨a4, 0, none⟩ = some (.int .i64 ((q0c a2 a0).f0)) ∧ w'.cell? ⟨a4, 1, none⟩ = some (.int .i64 ((q0c a2 a0).f1)) ∧ w'.cell? ⟨a4, 2, none⟩ = some (.int .i64 ((q0c a2 a0).f2)) ∧ w'.cell? ⟨a4, 3, none⟩ = some (.int .i64 ((q0c a2 a0).f3)) ∧ w'.cell? ⟨a4, 4, none⟩ = some (.string ((q0c a2 a0).f4))) (ds := []) (ba 14 0) (by kernel_rfl) rfl rfl ⟨bc a3.out, bc a3.out, bc a3.out, bc a3.out, bc a3.out⟩ (fun a8 => ?_); refine q2l Fa.tab11 Fa.bits11 (fun b0 g3 => ?_)
             generalize wr.drew = u4 at a1 a3 HB a8 ⊢
             refine pu 0 59 (ba 14 1) b0 ?_
             refine tk 1 60 (ba 14 3) b0 g3 a8 ?_
             refine pu 2 61 (ba 14 7) b0 ?_
             refine pu 3 62 (ba 14 15) b0 ?_
             refine pe 4 63 (ba 14 31) b0 ?_
             refine pe 5 64 (ba 14 63) b0 ?_
             refine pe 6 65 (ba 14 127) b0 ?_
             refine pe 7 66 (ba 14 255) b0 ?_
             refine pe 8 67 (ba 14 511) b0 ?_
             refine pe 9 68 (ba 14 1023) b0 ?_
             refine pe 10 69 (ba 14 2047) b0 ?_
             refine pe 11 70 (ba 14 4095) b0 ?_
             refine pe 12 71 (ba 14 8191) b0 ?_
             refine pu 13 72 (ba 14 16383) b0 ?_
             refine q2a (q3p b0.out (by kernel_rfl)) ?_
             try go_wp2
             go_roundg k3
             case measure => have := h9.out; have := i0.out; have := i1.out; omega
             case rel => exact ⟨(wrap64 (a6 + 1)), el, H', ⟨by have := h9.out; have := i0.out; have := i1.out; omega⟩, ⟨pk a1.out⟩, ⟨pk a3.out⟩, ⟨pB HB.out⟩⟩
            rw [if_neg j9] at H
            have j1 := decide_eq_false j9
            clear j9
            have j7 := am H
            clear H
            go_upto_region 13 with (fail)
            go_cut [80] (fun t3 wc => ∃ (kq : Nat) (g9 : Bool), t3 = .bool g9 ∧ q0f (Fa.j3 kq a0 a2 (a2.length : Int) a0 g9 b7 d5 a5 d6 a2 ((q0c a2 a0).f0) ((q0c a2 a0).f1) ((q0c a2 a0).f2) ((q0c a2 a0).f3) ((q0c a2 a0).f4) = some r) ∧ q0f (kq ≤ k3) ∧ q0f (wc.heap[a9]? = some (.cells #[.string b7, .string d5, (.slice (some b2) a5.length f9), .int .i64 d6, (.slice (some a7) a2.length g0)] 27 (0, 0))) ∧ q0f (wc.heap[a4]? = some (.cells #[.int .i64 ((q0c a2 a0).f0), .int .i64 ((q0c a2 a0).f1), .int .i64 ((q0c a2 a0).f2), .int .i64 ((q0c a2 a0).f3), .string ((q0c a2 a0).f4)] 51 (0, 0))) ∧ q0f (Below w.heap.size w wc))
            case first =>
             have H := j7.out
             clear j7
             by_cases m8 : ((q0c a2 a0).f0) = 0
             ·
              rw [if_pos m8] at H
              obtain ⟨h0, m9⟩ := qt m8
              clear m8
              (first | rw [h0] | (simp only [q2r, q2u]; rw [h0]) | skip)
              replace H := Option.bind_eq_some_iff.mp H
              obtain ⟨o0, k9, H⟩ := H
              try dsimp only at H
              have s6 := am k9
              clear k9
              have H' := am H
              clear H
              have r7 := nn b1
              have p0 := y5 a3
              have p1 := y5 a1
              go_wp2_with (first | (go_at_call 41; (with_reducible refine (Fk.calls k3 b7 d5 _ _ a5 d6 _ _ a2 a0 o0 _ ?side1 ?side2 ?side3 ?side4 s6.out).mono ?_); (case side1 => exact (Kd.C_below e2.out (pB HB.out))); (case side2 => exact f8.out); (case side3 => exact (Kd.C_below f6.out (pB HB.out))); (case side4 => exact h4.out); rintro e u5 ⟨rfl, hb⟩; replace a1 := kB a1 hb; replace a3 := kB a3 hb; replace HB := bS HB hb; (try clear hb)))
              go_meet
              case rel => exact ⟨_, (o0), el, H', ⟨by have := h9.out; have := i0.out; have := i1.out; first | omega | exact Nat.le_refl _⟩, ⟨pk a1.out⟩, ⟨pk a3.out⟩, ⟨pB HB.out⟩⟩
             rw [if_neg m8] at H
             obtain ⟨h0, m9⟩ := qf m8
             (first | rw [h0] | (simp only [q2r, q2u]; rw [h0]) | skip)
             have H' := am H
             clear H
             have r8 := nn b1
             have p2 := y5 a3
             go_wp2
             go_meet
             case rel => exact ⟨_, (false), el, H', ⟨by have := h9.out; have := i0.out; have := i1.out; first | omega | exact Nat.le_refl _⟩, ⟨pk a1.out⟩, ⟨pk a3.out⟩, ⟨pB HB.out⟩⟩
            case rest =>
             clear j7
             try clear j9
             try clear j1
             try clear g4
             try clear h5
             try clear d7
             try clear d8
             try clear d9
             try clear e0
             try clear e1
             try clear b3
             try clear b4
             try clear b5
             try clear b6
             try clear g5
             try clear g6
             try clear g7
             try clear g8
             obtain ⟨kq, g9, rfl, HA, h7, a1, a3, HB⟩ := hcut
             cases kq with
             | zero => exact absurd HA.out (by simp [Fa.j3])
             | succ i6 =>
              have H := HA.out
              clear HA
              simp only [Fa.j3] at H
              by_cases o3 : g9 = true
              ·
               subst o3
               rw [if_pos rfl] at H
               try dsimp only at H
               obtain rfl := Option.some.inj H
               go_wp2
               go_ret
               exact ⟨er, pB HB.out⟩
              replace o3 := Bool.eq_false_iff.mpr o3
              subst o3
              rw [if_neg (show ¬ (false = true) by decide)] at H
              try dsimp only at H
              by_cases n0 : ((q0c a2 a0).f0) = 0
              ·
               rw [if_pos n0] at H
               obtain ⟨n1, n2⟩ := qt n0
               clear n0
               have H' := am H
               clear H
               have r9 := nn b1
               have p3 := y5 a3
               go_wp2
               go_roundg i6
               case measure => have := h9.out; have := i0.out; have := i1.out; have := h7.out; omega
               case rel => exact ⟨(wrap64 (a0 + 1)), el, H', ⟨by have := h9.out; have := i0.out; have := i1.out; have := h7.out; omega⟩, ⟨pk a1.out⟩, ⟨pB HB.out⟩⟩
              rw [if_neg n0] at H
              obtain ⟨n1, n2⟩ := qf n0
              by_cases n3 : ((q0c a2 a0).f0) = 5
              ·
               rw [if_pos n3] at H
               obtain ⟨n4, n5⟩ := qt n3
               clear n3
               have H' := am H
               clear H
               have s0 := nn b1
               have p4 := y5 a3
               go_wp2
               go_roundg i6
               case measure => have := h9.out; have := i0.out; have := i1.out; have := h7.out; omega
               case rel => exact ⟨(wrap64 (a0 + 1)), el, H', ⟨by have := h9.out; have := i0.out; have := i1.out; have := h7.out; omega⟩, ⟨pk a1.out⟩, ⟨pB HB.out⟩⟩
              rw [if_neg n3] at H
              obtain ⟨n4, n5⟩ := qf n3
              replace H := Option.bind_eq_some_iff.mp H
              obtain ⟨q9, l2, H⟩ := H
              try dsimp only at H
              have r1 := am l2
              clear l2
              by_cases o4 : q9 = true
              ·
               subst o4
               rw [if_pos rfl] at H
               try dsimp only at H
               have H' := am H
               clear H
               have s1 := nn b1
               have p5 := y5 a3
               have p6 := y5 a1
               go_wp2_with (first | (go_at_call 41; (with_reducible refine (Fk.calls i6 b7 d5 _ _ a5 d6 _ _ a2 a0 true _ ?side1 ?side2 ?side3 ?side4 r1.out).mono ?_); (case side1 => exact (Kd.C_below e2.out (pB HB.out))); (case side2 => exact f8.out); (case side3 => exact (Kd.C_below f6.out (pB HB.out))); (case side4 => exact h4.out); rintro e u6 ⟨rfl, hb⟩; replace a1 := kB a1 hb; replace a3 := kB a3 hb; replace HB := bS HB hb; (try clear hb)))
               go_roundg i6
               case measure => have := h9.out; have := i0.out; have := i1.out; have := h7.out; omega
               case rel => exact ⟨(wrap64 (a0 + 1)), el, H', ⟨by have := h9.out; have := i0.out; have := i1.out; have := h7.out; omega⟩, ⟨pk a1.out⟩, ⟨pB HB.out⟩⟩
              replace o4 := Bool.eq_false_iff.mpr o4
              subst o4
              rw [if_neg (show ¬ (false = true) by decide)] at H
              try dsimp only at H
              obtain rfl := Option.some.inj H
              have s2 := nn b1
              have p7 := y5 a3
              have p8 := y5 a1
              go_wp2_with (first | (go_at_call 41; (with_reducible refine (Fk.calls i6 b7 d5 _ _ a5 d6 _ _ a2 a0 false _ ?side1 ?side2 ?side3 ?side4 r1.out).mono ?_); (case side1 => exact (Kd.C_below e2.out (pB HB.out))); (case side2 => exact f8.out); (case side3 => exact (Kd.C_below f6.out (pB HB.out))); (case side4 => exact h4.out); rintro e u7 ⟨rfl, hb⟩; replace a1 := kB a1 hb; replace a3 := kB a3 hb; replace HB := bS HB hb; (try clear hb)))
              go_ret
              exact ⟨er, pB HB.out⟩
         replace m3 := Bool.eq_false_iff.mpr m3
         subst m3
         rw [if_neg (show ¬ (false = true) by decide)] at H
         try dsimp only at H
         obtain rfl := Option.some.inj H
         have g5 : 0 ≤ (a0 : Int) := od
         have g7 : a0 < (a2.length : Int) := od
         obtain ⟨a7, k0, d7, d8, d9, e0, e1⟩ := q1u f6.out a0 g5 g7
         cases k0
         replace d7 := bX HB d7
         replace d8 := bX HB d8
         replace d9 := bX HB d9
         replace e0 := bX HB e0
         replace e1 := bX HB e1
         replace g5 := eq_true g5
         replace g7 := eq_true g7
         try go_wp2_with (first | ((with_reducible refine gD 4 ?_); (try (refine q1e (by rfl) ?_; dsimp only)); refine bz 4 #[.int .i64 0, .int .i64 0, .int .i64 0, .int .i64 0, .string (⟨#[]⟩ : ByteArray)] 51 HB ?_; clear HB; intro a4 hg t5 hb a3 l3 HB; have h8 := nL hg a1; have b1 := nG hg a1; replace a1 := kB a1 hb; clear hb hg; have s3 := nn b1; have p9 := y5 a3))
         obtain ⟨w72, hw⟩ : ∃ x, x = (((((t5.setCell ⟨a4, 0, none⟩ (.int .i64 ((q0c a2 a0).f0))).setCell ⟨a4, 1, none⟩ (.int .i64 ((q0c a2 a0).f1))).setCell ⟨a4, 2, none⟩ (.int .i64 ((q0c a2 a0).f2))).setCell ⟨a4, 3, none⟩ (.int .i64 ((q0c a2 a0).f3))).setCell ⟨a4, 4, none⟩ (.string ((q0c a2 a0).f4))) := ⟨_, rfl⟩
         have n6 := kW hw a1
         have n7 := pW (cs' := #[.int .i64 ((q0c a2 a0).f0), .int .i64 ((q0c a2 a0).f1), .int .i64 ((q0c a2 a0).f2), .int .i64 ((q0c a2 a0).f3), .string ((q0c a2 a0).f4)]) hw a3
         have n8 := bW hw HB
         (try clear a1)
         (try clear a3)
         (try clear HB)
         rw [← hw]
         clear hw
         have a1 := n6
         have a3 := n7
         have HB := n8
         clear n6 n7 n8
         replace a1 := am (q0g a1.out)
         replace a3 := am (q0g a3.out)
         replace HB := am (q0a HB.out)
         have g6 : 0 ≤ (a0 : Int) := od
         have g8 : a0 < (a5.length : Int) := od
         obtain ⟨b2, f7, g1, k1, b3, b4, b5, b6, e5, e4⟩ := q1q e2.out a0 g6 g8
         have c8 := b6
         have c7 := b5
         have b9 := b4
         have b8 := b3
         cases k1
         replace b3 := bX HB b3
         replace b4 := bX HB b4
         replace b5 := bX HB b5
         replace b6 := bX HB b6
         have e3 := am e4
         have g2 := am e5
         clear e4 e5
         replace g6 := eq_true g6
         replace g8 := eq_true g8
         refine q2i (n := 9) (S := fun w' => w'.cell? ⟨a9, 0, none⟩ = some (.string b7) ∧ w'.cell? ⟨a9, 1, none⟩ = some (.string d5) ∧ w'.cell? ⟨a9, 2, none⟩ = some (.slice (some b2) a5.length f9) ∧ w'.cell? ⟨a9, 3, none⟩ = some (.int .i64 d6) ∧ w'.cell? ⟨a9, 4, none⟩ = some (.slice (some a7) a2.length g0) ∧ w'.cell? ⟨a4, 0, none⟩ = some (.int .i64 ((q0c a2 a0).f0)) ∧ w'.cell? ⟨a4, 1, none⟩ = some (.int .i64 ((q0c a2 a0).f1)) ∧ w'.cell? ⟨a4, 2, none⟩ = some (.int .i64 ((q0c a2 a0).f2)) ∧ w'.cell? ⟨a4, 3, none⟩ = some (.int .i64 ((q0c a2 a0).f3)) ∧ w'.cell? ⟨a4, 4, none⟩ = some (.string ((q0c a2 a0).f4)) ∧ w'.cell? (b2.add ((a0).toNat * 4)) = some (.slice f7 ((q0e a5 a0).f0).length g1) ∧ w'.cell? ⟨(b2.add ((a0).toNat * 4)).block, (b2.add ((a0).toNat * 4)).off + 1, none⟩ = some (.int .i64 ((q0e a5 a0).f1)) ∧ w'.cell? ⟨(b2.add ((a0).toNat * 4)).block, (b2.add ((a0).toNat * 4)).off + 2, none⟩ = some (.int .i64 ((q0e a5 a0).f2)) ∧ w'.cell? ⟨(b2.add ((a0).toNat * 4)).block, (b2.add ((a0).toNat * 4)).off + 3, none⟩ = some (.int .i64 ((q0e a5 a0).f3))) (ds := []) (ba 9 0) (by kernel_rfl) rfl rfl ⟨bc a1.out, bc a1.out, bc a1.out, bc a1.out, bc a1.out, bc a3.out, bc a3.out, bc a3.out, bc a3.out, bc a3.out, ((HB.out.cell (World.block_lt_of_cell? w _ b8)).trans b8), ((HB.out.cell (World.block_lt_of_cell? w _ b9)).trans b9), ((HB.out.cell (World.block_lt_of_cell? w _ c7)).trans c7), ((HB.out.cell (World.block_lt_of_cell? w _ c8)).trans c8)⟩ (fun a8 => ?_); refine q2l Fa.tab6 Fa.bits6 (fun b0 g3 => ?_)
         generalize w72.drew = u8 at a1 a3 HB e3 b3 b4 b5 b6 a8 ⊢
         refine pu 0 45 (ba 9 1) b0 ?_
         refine pu 1 46 (ba 9 3) b0 ?_
         refine pu 3 48 (ba 9 11) b0 ?_
         refine tk 2 47 (ba 9 15) b0 g3 a8 ?_
         refine pu 4 49 (ba 9 31) b0 ?_
         refine tk 5 50 (ba 9 63) b0 g3 a8 ?_
         refine tk 6 51 (ba 9 127) b0 g3 a8 ?_
         refine one_ (i := 7) (N := some 52) (ba 9 255) rfl rfl (one_of b0.out (by kernel_rfl)) (by decide) (fun K hK => ?_)
         refine q2c Try.func40 (by kernel_rfl) rfl #[.agg #[.slice f7 ((q0e a5 a0).f0).length g1, .int .i64 ((q0e a5 a0).f1), .int .i64 ((q0e a5 a0).f2), .int .i64 ((q0e a5 a0).f3)], .agg #[.int .i64 ((q0c a2 a0).f0), .int .i64 ((q0c a2 a0).f1), .int .i64 ((q0c a2 a0).f2), .int .i64 ((q0c a2 a0).f3), .string ((q0c a2 a0).f4)]] (by rfl) rfl rfl (by (try simp only [List.map_toArray, List.map_cons, List.map_nil]); first | done | rfl | (simp only [List.length_drop, List.length_take]; rfl)) ?_
         with_reducible refine (Fd.calls k2 _ _ ((q0e a5 a0).f0) ((q0e a5 a0).f1) ((q0e a5 a0).f2) ((q0e a5 a0).f3) ((q0c a2 a0).f0) ((q0c a2 a0).f1) ((q0c a2 a0).f2) ((q0c a2 a0).f3) ((q0c a2 a0).f4) false _ ?side1 ?side2 r0.out).mono ?_
         (case side1 => exact (Kd.C_below e3.out (pB HB.out)))
         (case side2 => exact g2.out)
         rintro e u9 ⟨rfl, hb⟩
         refine ⟨_, rfl, ?_⟩
         replace a1 := kB a1 hb
         replace a3 := kB a3 hb
         replace HB := bS HB hb
         (try clear hb)
         (try clear hb2)
         (try clear hk)
         (try clear hi)
         refine hK.out _ _ ⟨bc a1.out, bc a1.out, bc a1.out, bc a1.out, bc a1.out, bc a3.out, bc a3.out, bc a3.out, bc a3.out, bc a3.out, ((HB.out.cell (World.block_lt_of_cell? w _ b8)).trans b8), ((HB.out.cell (World.block_lt_of_cell? w _ b9)).trans b9), ((HB.out.cell (World.block_lt_of_cell? w _ c7)).trans c7), ((HB.out.cell (World.block_lt_of_cell? w _ c8)).trans c8)⟩ (fun a8 => ?_)
         clear hK K
         refine nh ?_
         refine pu 8 53 (ba 9 511) b0 ?_
         refine q2a (q3p b0.out (by kernel_rfl)) ?_
         try go_wp2
         go_ret
         exact ⟨er, pB HB.out⟩
        rw [if_neg m1] at H
        exact absurd H (by simp)
       rw [if_neg l9] at H
       exact absurd H (by simp)
      rw [if_neg l7] at H
      exact absurd H (by simp)
     rw [if_neg j8] at H
     have i9 := decide_eq_false j8
     clear j8
     obtain rfl := Option.some.inj H
     go_wp2
     go_ret
     exact ⟨er, pB HB.out⟩
end Go.Proofs.Ytabmkighhmchmaa.X
namespace Go.YW.Sq
open Go.RowKit Go.YW.PrintWords Go.YW.PrintLast Go.YW.PrintMore
theorem vaw {α : Type} {d : Kd α} {e base n c g : Nat} {ok : Nat → Prop} {w : World} {ad : Addr} {xs : List α} (h : Kd.V d e w base ok (.slice (some ad) n c) xs) (hok : ∀ k, ok k → k ≠ g) (hs : 0 < d.sz := by first | decide | exact Nat.zero_lt_succ _) (hn : 0 < xs.length := by omega) : ad.block ≠ g := by
 obtain ⟨A, c', hv, hl, hf⟩ := h
 injection hv with h1 h2 h3
 subst h1
 exact hok _ (Kd.F_in hf rfl hn hs)
end Go.YW.Sq
namespace Go.Proofs.Ytabmkighhmchmaa.X
open Go.RowKit Go.YW.PrintWords Go.YW.PrintLast Go.YW.PrintMore Go.YW.Sq
attribute [local go_sem] q0y q0w q1g q1f q0t q0s q0x q0v
set_option linter.unusedVariables false
set_option linter.unusedSimpArgs false
def F0.f (k : Nat)  : Option (Bool) := (Gg.f k (⟨#[107]⟩ : ByteArray) (⟨#[97]⟩ : ByteArray) (([(⟨([] : List Int), 1, 0, 1⟩ : S49)] : List (S49)))).bind fun a0 => (if a0.2.2.2.2.2 = 0 then (if (a0.2.2.2.2.1.length : Int) = 1 then (if 0 < (a0.2.2.2.2.1.length : Int) then (if ((q0c a0.2.2.2.2.1 0).f0) = 1 then ((Gj.f k a0.1 a0.2.1 a0.2.2.1 a0.2.2.2.1 a0.2.2.2.2.1).bind fun a1 => (some a1)) else (some false)) else (none)) else (some false)) else (some false))
set_option maxHeartbeats 8000000 in
set_option maxRecDepth 100000 in
theorem F0.calls (k : Nat)  (r : Bool) (w : World) (h : F0.f k  = some r) :
  Calls Try.prog 16 #[] w fun e w' => e = .returned (.bool r) ∧ Below w.heap.size w w' := by
 have k3 := Try.underlying49
 have k1 := Try.underlying24
 have k2 := Try.underlying27
 have HB := am (Below.refl w.heap.size w)
 unfold F0.f at h
 have H := h
 clear h
 obtain ⟨y241, hy241⟩ : ∃ y_ : List (S49), y_ = (([(⟨([] : List Int), 1, 0, 1⟩ : S49)] : List (S49))) := ⟨_, rfl⟩
 replace H : ((Gg.f k (⟨#[107]⟩ : ByteArray) (⟨#[97]⟩ : ByteArray) y241).bind fun c7 => (if c7.2.2.2.2.2 = 0 then (if (c7.2.2.2.2.1.length : Int) = 1 then (if 0 < (c7.2.2.2.2.1.length : Int) then (if ((q0c c7.2.2.2.2.1 0).f0) = 1 then ((Gj.f k c7.1 c7.2.1 c7.2.2.1 c7.2.2.2.1 c7.2.2.2.2.1).bind fun e8 => (some e8)) else (some false)) else (none)) else (some false)) else (some false))) = some r := by first | (rw [hy241]; with_reducible exact H) | (have g2 := (Option.bind_some _ _).symm.trans H; rw [hy241]; with_reducible exact g2) | (have g2 := (Option.bind_some _ _).symm.trans H; with_reducible exact g2) | with_reducible exact H | (rw [hy241]; exact H) | exact H
 have c9 := am hy241
 clear hy241
 replace H := Option.bind_eq_some_iff.mp H
 obtain ⟨⟨b6, b7, b8, b9, b5, e5⟩, i4, H⟩ := H
 try dsimp only at H
 have A1 := am i4
 clear i4
 by_cases c2 : e5 = 0
 ·
  rw [if_pos c2] at H
  obtain ⟨g3, g4⟩ := qt c2
  clear c2
  by_cases c3 : (b5.length : Int) = 1
  ·
   rw [if_pos c3] at H
   obtain ⟨g5, g6⟩ := qt c3
   clear c3
   by_cases c4 : 0 < (b5.length : Int)
   ·
    rw [if_pos c4] at H
    have j3 := decide_eq_true c4
    have j4 : decide (0 < b5.length) = true := decide_eq_true (by omega)
    clear c4
    by_cases c5 : ((q0c b5 0).f0) = 1
    ·
     rw [if_pos c5] at H
     obtain ⟨g7, g8⟩ := qt c5
     clear c5
     replace H := Option.bind_eq_some_iff.mp H
     obtain ⟨e8, i5, H⟩ := H
     try dsimp only at H
     have A6 := am i5
     clear i5
     obtain rfl := Option.some.inj H
     go_enter Try.func16, Try.ntmps16
     go_wp2_with (first | ((with_reducible refine gD 5 ?_); (try (refine q1e (by rfl) ?_; dsimp only)); refine Kd.S_lit k49 _ 49 ?hg (N := 5) ?hd (xs := ([(⟨([] : List Int), 1, 0, 1⟩ : S49)] : List (S49))) (inner := [.slice none 0 0, .int .i64 1, .int .i64 0, .int .i64 1]) (ok := fun _ => True) (okp := fun _ => True) ?hr ?hp (fun _ hk => hk) trivial (Below.refl _ _) (Nat.le_refl _) (by simp) ?_; (case hd => rfl); (case hg => rfl); (case hr => first | (go_simp; done) | (go_simp; rfl)); (case hp => exact (Reps.c4 (show Kd.M k49 _ _ _ (⟨([] : List Int), 1, 0, 1⟩ : S49) [.slice none 0 0, .int .i64 1, .int .i64 0, .int .i64 1] from (k49_mkM _ _ _ (⟨([] : List Int), 1, 0, 1⟩ : S49) (Kd.R_nil _ _ _ _ _))) (Reps.none _ _))); intro e9 w7 f3 hb e7 d0; clear e7 d0; (first | rw [← c9.out] at f3 | (simp only [Int.reduceToNat] at f3; rw [← c9.out] at f3)); have a7 := am (Kd.S_lower f3 (q0p (pB HB.out))); replace HB := bS HB hb; clear hb f3; obtain ⟨j2, j9, k0⟩ := Kd.S_slice a7.out; subst k0) | ((with_reducible refine gC 10 ?_); refine gL 7 Try.func10 #[.string (⟨#[107]⟩ : ByteArray), .agg #[.string (⟨#[97]⟩ : ByteArray), .slice j2 y241.length j9]] ?_; (with_reducible refine (Gg.calls k (⟨#[107]⟩ : ByteArray) (⟨#[97]⟩ : ByteArray) (fun k_ => True) _ _ y241 b6 b7 b8 b9 b5 e5 _ ?side1 A1.out).mono ?_); (case side1 => exact Kd.S_V (a7.out)); rintro e k4 ⟨f1, f2, rfl, e0, e1, hb⟩; refine ⟨_, rfl, ?_⟩; replace a7 := am (Kd.S_below (pS a7.out) hb); have b4 := vL (ok' := fun k_ => True) HB e0 (fun k_ c8 => trivial); have a6 := vL (ok' := fun k_ => True) HB e1 (fun k_ c8 => trivial); replace HB := bS HB hb; (try clear hb); (try clear e0); (try clear e1)) | ((with_reducible refine gD 1 ?_); (try (refine q1e (by rfl) ?_; dsimp only)); refine bz 1 #[.string (⟨#[]⟩ : ByteArray), .string (⟨#[]⟩ : ByteArray), .slice none 0 0, .int .i64 0, .slice none 0 0] 27 HB ?_; clear HB; intro a0 hg k5 hb c6 d7 HB; replace a7 := am (Kd.S_below (pS a7.out) hb); replace b4 := vE b4 hg hb; replace a6 := vE a6 hg hb; clear hb hg; have f5 := y5 c6; obtain ⟨d3, d4, h3⟩ := Kd.V_slice b4.out; subst h3; obtain ⟨i6, d5, h4⟩ := Kd.V_slice a6.out; subst h4; have d1 : 0 ≤ (0 : Int) := (by omega); have d2 : 0 < (b5.length : Int) := od; obtain ⟨b3, e6, a1, a2, a3, a4, a5⟩ := q1u (Kd.V_reads' a6.out).2.2 0 d1 d2; cases e6; have f4 : (0 < b5.length) = True := eq_true (by omega); (try rw [show ((0 : Int)).toNat = 0 from rfl] at a1); (try rw [show 0 * 5 = 0 from rfl] at a1); (try rw [Addr.add_zero'] at a1); (try rw [show ((0 : Int)).toNat = 0 from rfl] at a2); (try rw [show 0 * 5 = 0 from rfl] at a2); (try rw [Addr.add_zero'] at a2); (try rw [show ((0 : Int)).toNat = 0 from rfl] at a3); (try rw [show 0 * 5 = 0 from rfl] at a3); (try rw [Addr.add_zero'] at a3); (try rw [show ((0 : Int)).toNat = 0 from rfl] at a4); (try rw [show 0 * 5 = 0 from rfl] at a4); (try rw [Addr.add_zero'] at a4); (try rw [show ((0 : Int)).toNat = 0 from rfl] at a5); (try rw [show 0 * 5 = 0 from rfl] at a5); (try rw [Addr.add_zero'] at a5); have a8 : b3.block ≠ a0 := vaw a6.out (fun _ c8 => c8.2) (hn := by omega); have a9 : b3.block ≠ a0 := vaw a6.out (fun _ c8 => c8.2) (hn := by omega); have b0 : b3.block ≠ a0 := vaw a6.out (fun _ c8 => c8.2) (hn := by omega); have b1 : b3.block ≠ a0 := vaw a6.out (fun _ c8 => c8.2) (hn := by omega); have b2 : b3.block ≠ a0 := vaw a6.out (fun _ c8 => c8.2) (hn := by omega); replace a1 := (cell_far (p := ⟨a0, 0, none⟩) (nb a8) (.string b6)).trans a1; replace a2 := (cell_far (p := ⟨a0, 0, none⟩) (nb a8) (.string b6)).trans a2; replace a3 := (cell_far (p := ⟨a0, 0, none⟩) (nb a8) (.string b6)).trans a3; replace a4 := (cell_far (p := ⟨a0, 0, none⟩) (nb a8) (.string b6)).trans a4; replace a5 := (cell_far (p := ⟨a0, 0, none⟩) (nb a8) (.string b6)).trans a5; replace a1 := (cell_far (p := ⟨a0, 1, none⟩) (nb a9) (.string b7)).trans a1; replace a2 := (cell_far (p := ⟨a0, 1, none⟩) (nb a9) (.string b7)).trans a2; replace a3 := (cell_far (p := ⟨a0, 1, none⟩) (nb a9) (.string b7)).trans a3; replace a4 := (cell_far (p := ⟨a0, 1, none⟩) (nb a9) (.string b7)).trans a4; replace a5 := (cell_far (p := ⟨a0, 1, none⟩) (nb a9) (.string b7)).trans a5; replace a1 := (cell_far (p := ⟨a0, 2, none⟩) (nb b0) (.slice d3 b8.length d4)).trans a1; replace a2 := (cell_far (p := ⟨a0, 2, none⟩) (nb b0) (.slice d3 b8.length d4)).trans a2; replace a3 := (cell_far (p := ⟨a0, 2, none⟩) (nb b0) (.slice d3 b8.length d4)).trans a3; replace a4 := (cell_far (p := ⟨a0, 2, none⟩) (nb b0) (.slice d3 b8.length d4)).trans a4; replace a5 := (cell_far (p := ⟨a0, 2, none⟩) (nb b0) (.slice d3 b8.length d4)).trans a5; replace a1 := (cell_far (p := ⟨a0, 3, none⟩) (nb b1) (.int .i64 b9)).trans a1; replace a2 := (cell_far (p := ⟨a0, 3, none⟩) (nb b1) (.int .i64 b9)).trans a2; replace a3 := (cell_far (p := ⟨a0, 3, none⟩) (nb b1) (.int .i64 b9)).trans a3; replace a4 := (cell_far (p := ⟨a0, 3, none⟩) (nb b1) (.int .i64 b9)).trans a4; replace a5 := (cell_far (p := ⟨a0, 3, none⟩) (nb b1) (.int .i64 b9)).trans a5; replace a1 := (cell_far (p := ⟨a0, 4, none⟩) (nb b2) (.slice (some b3) b5.length d5)).trans a1; replace a2 := (cell_far (p := ⟨a0, 4, none⟩) (nb b2) (.slice (some b3) b5.length d5)).trans a2; replace a3 := (cell_far (p := ⟨a0, 4, none⟩) (nb b2) (.slice (some b3) b5.length d5)).trans a3; replace a4 := (cell_far (p := ⟨a0, 4, none⟩) (nb b2) (.slice (some b3) b5.length d5)).trans a4; replace a5 := (cell_far (p := ⟨a0, 4, none⟩) (nb b2) (.slice (some b3) b5.length d5)).trans a5; clear a8 a9 b0 b1 b2; replace d1 := eq_true d1; replace d2 := eq_true d2) | (go_at_call 17; (with_reducible refine (Gj.calls k b6 b7 _ _ b8 b9 _ _ b5 e8 _ ?side1 ?side2 ?side3 ?side4 A6.out).mono ?_); (case side1 => exact (Kd.V_reads' (pV b4.out)).2.2); (case side2 => exact (Kd.V_reads' b4.out).2.1); (case side3 => exact (Kd.V_reads' (pV a6.out)).2.2); (case side4 => exact (Kd.V_reads' a6.out).2.1); rintro e k6 ⟨rfl, hb⟩; replace a7 := am (Kd.S_below ((Kd.S_mono (pS (Kd.S_types a7.out c6.out (by decide))) (fun _ h_ => h_.1))) hb); replace b4 := vB b4 hb; replace a6 := vB a6 hb; replace c6 := am (q0b (g := a0) (o := .cells #[.string b6, .string b7, .slice d3 b8.length d4, .int .i64 b9, .slice (some b3) b5.length d5] 27 (0, 0)) (pP c6.out) hb); replace HB := bS HB hb; (try clear hb)))
     go_ret
     exact ⟨er, pB HB.out⟩
    rw [if_neg c5] at H
    obtain ⟨g7, g8⟩ := qf c5
    clear c5
    obtain rfl := Option.some.inj H
    go_enter Try.func16, Try.ntmps16
    go_wp2_with (first | ((with_reducible refine gD 5 ?_); (try (refine q1e (by rfl) ?_; dsimp only)); refine Kd.S_lit k49 _ 49 ?hg (N := 5) ?hd (xs := ([(⟨([] : List Int), 1, 0, 1⟩ : S49)] : List (S49))) (inner := [.slice none 0 0, .int .i64 1, .int .i64 0, .int .i64 1]) (ok := fun _ => True) (okp := fun _ => True) ?hr ?hp (fun _ hk => hk) trivial (Below.refl _ _) (Nat.le_refl _) (by simp) ?_; (case hd => rfl); (case hg => rfl); (case hr => first | (go_simp; done) | (go_simp; rfl)); (case hp => exact (Reps.c4 (show Kd.M k49 _ _ _ (⟨([] : List Int), 1, 0, 1⟩ : S49) [.slice none 0 0, .int .i64 1, .int .i64 0, .int .i64 1] from (k49_mkM _ _ _ (⟨([] : List Int), 1, 0, 1⟩ : S49) (Kd.R_nil _ _ _ _ _))) (Reps.none _ _))); intro e9 k7 e2 hb e7 d0; clear e7 d0; (first | rw [← c9.out] at e2 | (simp only [Int.reduceToNat] at e2; rw [← c9.out] at e2)); have a7 := am (Kd.S_lower e2 (q0p (pB HB.out))); replace HB := bS HB hb; clear hb e2; obtain ⟨f9, g9, h5⟩ := Kd.S_slice a7.out; subst h5) | ((with_reducible refine gC 10 ?_); refine gL 7 Try.func10 #[.string (⟨#[107]⟩ : ByteArray), .agg #[.string (⟨#[97]⟩ : ByteArray), .slice f9 y241.length g9]] ?_; (with_reducible refine (Gg.calls k (⟨#[107]⟩ : ByteArray) (⟨#[97]⟩ : ByteArray) (fun k_ => True) _ _ y241 b6 b7 b8 b9 b5 e5 _ ?side1 A1.out).mono ?_); (case side1 => exact Kd.S_V (a7.out)); rintro e k8 ⟨f1, f2, rfl, e0, e1, hb⟩; refine ⟨_, rfl, ?_⟩; replace a7 := am (Kd.S_below (pS a7.out) hb); have b4 := vL (ok' := fun k_ => True) HB e0 (fun k_ c8 => trivial); have a6 := vL (ok' := fun k_ => True) HB e1 (fun k_ c8 => trivial); replace HB := bS HB hb; (try clear hb); (try clear e0); (try clear e1)) | ((with_reducible refine gD 1 ?_); (try (refine q1e (by rfl) ?_; dsimp only)); refine bz 1 #[.string (⟨#[]⟩ : ByteArray), .string (⟨#[]⟩ : ByteArray), .slice none 0 0, .int .i64 0, .slice none 0 0] 27 HB ?_; clear HB; intro a0 hg k9 hb c6 d7 HB; replace a7 := am (Kd.S_below (pS a7.out) hb); replace b4 := vE b4 hg hb; replace a6 := vE a6 hg hb; clear hb hg; have f6 := y5 c6; obtain ⟨d6, d8, h6⟩ := Kd.V_slice b4.out; subst h6; obtain ⟨i7, d9, h7⟩ := Kd.V_slice a6.out; subst h7; have d1 : 0 ≤ (0 : Int) := (by omega); have d2 : 0 < (b5.length : Int) := od; obtain ⟨b3, e6, a1, a2, a3, a4, a5⟩ := q1u (Kd.V_reads' a6.out).2.2 0 d1 d2; cases e6; have f4 : (0 < b5.length) = True := eq_true (by omega); (try rw [show ((0 : Int)).toNat = 0 from rfl] at a1); (try rw [show 0 * 5 = 0 from rfl] at a1); (try rw [Addr.add_zero'] at a1); (try rw [show ((0 : Int)).toNat = 0 from rfl] at a2); (try rw [show 0 * 5 = 0 from rfl] at a2); (try rw [Addr.add_zero'] at a2); (try rw [show ((0 : Int)).toNat = 0 from rfl] at a3); (try rw [show 0 * 5 = 0 from rfl] at a3); (try rw [Addr.add_zero'] at a3); (try rw [show ((0 : Int)).toNat = 0 from rfl] at a4); (try rw [show 0 * 5 = 0 from rfl] at a4); (try rw [Addr.add_zero'] at a4); (try rw [show ((0 : Int)).toNat = 0 from rfl] at a5); (try rw [show 0 * 5 = 0 from rfl] at a5); (try rw [Addr.add_zero'] at a5); have a8 : b3.block ≠ a0 := vaw a6.out (fun _ c8 => c8.2) (hn := by omega); have a9 : b3.block ≠ a0 := vaw a6.out (fun _ c8 => c8.2) (hn := by omega); have b0 : b3.block ≠ a0 := vaw a6.out (fun _ c8 => c8.2) (hn := by omega); have b1 : b3.block ≠ a0 := vaw a6.out (fun _ c8 => c8.2) (hn := by omega); have b2 : b3.block ≠ a0 := vaw a6.out (fun _ c8 => c8.2) (hn := by omega); replace a1 := (cell_far (p := ⟨a0, 0, none⟩) (nb a8) (.string b6)).trans a1; replace a2 := (cell_far (p := ⟨a0, 0, none⟩) (nb a8) (.string b6)).trans a2; replace a3 := (cell_far (p := ⟨a0, 0, none⟩) (nb a8) (.string b6)).trans a3; replace a4 := (cell_far (p := ⟨a0, 0, none⟩) (nb a8) (.string b6)).trans a4; replace a5 := (cell_far (p := ⟨a0, 0, none⟩) (nb a8) (.string b6)).trans a5; replace a1 := (cell_far (p := ⟨a0, 1, none⟩) (nb a9) (.string b7)).trans a1; replace a2 := (cell_far (p := ⟨a0, 1, none⟩) (nb a9) (.string b7)).trans a2; replace a3 := (cell_far (p := ⟨a0, 1, none⟩) (nb a9) (.string b7)).trans a3; replace a4 := (cell_far (p := ⟨a0, 1, none⟩) (nb a9) (.string b7)).trans a4; replace a5 := (cell_far (p := ⟨a0, 1, none⟩) (nb a9) (.string b7)).trans a5; replace a1 := (cell_far (p := ⟨a0, 2, none⟩) (nb b0) (.slice d6 b8.length d8)).trans a1; replace a2 := (cell_far (p := ⟨a0, 2, none⟩) (nb b0) (.slice d6 b8.length d8)).trans a2; replace a3 := (cell_far (p := ⟨a0, 2, none⟩) (nb b0) (.slice d6 b8.length d8)).trans a3; replace a4 := (cell_far (p := ⟨a0, 2, none⟩) (nb b0) (.slice d6 b8.length d8)).trans a4; replace a5 := (cell_far (p := ⟨a0, 2, none⟩) (nb b0) (.slice d6 b8.length d8)).trans a5; replace a1 := (cell_far (p := ⟨a0, 3, none⟩) (nb b1) (.int .i64 b9)).trans a1; replace a2 := (cell_far (p := ⟨a0, 3, none⟩) (nb b1) (.int .i64 b9)).trans a2; replace a3 := (cell_far (p := ⟨a0, 3, none⟩) (nb b1) (.int .i64 b9)).trans a3; replace a4 := (cell_far (p := ⟨a0, 3, none⟩) (nb b1) (.int .i64 b9)).trans a4; replace a5 := (cell_far (p := ⟨a0, 3, none⟩) (nb b1) (.int .i64 b9)).trans a5; replace a1 := (cell_far (p := ⟨a0, 4, none⟩) (nb b2) (.slice (some b3) b5.length d9)).trans a1; replace a2 := (cell_far (p := ⟨a0, 4, none⟩) (nb b2) (.slice (some b3) b5.length d9)).trans a2; replace a3 := (cell_far (p := ⟨a0, 4, none⟩) (nb b2) (.slice (some b3) b5.length d9)).trans a3; replace a4 := (cell_far (p := ⟨a0, 4, none⟩) (nb b2) (.slice (some b3) b5.length d9)).trans a4; replace a5 := (cell_far (p := ⟨a0, 4, none⟩) (nb b2) (.slice (some b3) b5.length d9)).trans a5; clear a8 a9 b0 b1 b2; replace d1 := eq_true d1; replace d2 := eq_true d2))
    go_ret
    exact ⟨er, pB HB.out⟩
   rw [if_neg c4] at H
   exact absurd H (by simp)
  rw [if_neg c3] at H
  obtain ⟨g5, g6⟩ := qf c3
  obtain rfl := Option.some.inj H
  go_enter Try.func16, Try.ntmps16
  go_wp2_with (first | ((with_reducible refine gD 5 ?_); (try (refine q1e (by rfl) ?_; dsimp only)); refine Kd.S_lit k49 _ 49 ?hg (N := 5) ?hd (xs := ([(⟨([] : List Int), 1, 0, 1⟩ : S49)] : List (S49))) (inner := [.slice none 0 0, .int .i64 1, .int .i64 0, .int .i64 1]) (ok := fun _ => True) (okp := fun _ => True) ?hr ?hp (fun _ hk => hk) trivial (Below.refl _ _) (Nat.le_refl _) (by simp) ?_; (case hd => rfl); (case hg => rfl); (case hr => first | (go_simp; done) | (go_simp; rfl)); (case hp => exact (Reps.c4 (show Kd.M k49 _ _ _ (⟨([] : List Int), 1, 0, 1⟩ : S49) [.slice none 0 0, .int .i64 1, .int .i64 0, .int .i64 1] from (k49_mkM _ _ _ (⟨([] : List Int), 1, 0, 1⟩ : S49) (Kd.R_nil _ _ _ _ _))) (Reps.none _ _))); intro e9 l0 e3 hb e7 d0; clear e7 d0; (first | rw [← c9.out] at e3 | (simp only [Int.reduceToNat] at e3; rw [← c9.out] at e3)); have a7 := am (Kd.S_lower e3 (q0p (pB HB.out))); replace HB := bS HB hb; clear hb e3; obtain ⟨g0, h0, h8⟩ := Kd.S_slice a7.out; subst h8) | ((with_reducible refine gC 10 ?_); refine gL 7 Try.func10 #[.string (⟨#[107]⟩ : ByteArray), .agg #[.string (⟨#[97]⟩ : ByteArray), .slice g0 y241.length h0]] ?_; (with_reducible refine (Gg.calls k (⟨#[107]⟩ : ByteArray) (⟨#[97]⟩ : ByteArray) (fun k_ => True) _ _ y241 b6 b7 b8 b9 b5 e5 _ ?side1 A1.out).mono ?_); (case side1 => exact Kd.S_V (a7.out)); rintro e l1 ⟨f1, f2, rfl, e0, e1, hb⟩; refine ⟨_, rfl, ?_⟩; replace a7 := am (Kd.S_below (pS a7.out) hb); have b4 := vL (ok' := fun k_ => True) HB e0 (fun k_ c8 => trivial); have a6 := vL (ok' := fun k_ => True) HB e1 (fun k_ c8 => trivial); replace HB := bS HB hb; (try clear hb); (try clear e0); (try clear e1)) | ((with_reducible refine gD 1 ?_); (try (refine q1e (by rfl) ?_; dsimp only)); refine bz 1 #[.string (⟨#[]⟩ : ByteArray), .string (⟨#[]⟩ : ByteArray), .slice none 0 0, .int .i64 0, .slice none 0 0] 27 HB ?_; clear HB; intro a0 hg l2 hb c6 d7 HB; replace a7 := am (Kd.S_below (pS a7.out) hb); replace b4 := vE b4 hg hb; replace a6 := vE a6 hg hb; clear hb hg; have f7 := y5 c6; obtain ⟨i8, j5, h9⟩ := Kd.V_slice b4.out; subst h9; obtain ⟨i9, j6, i0⟩ := Kd.V_slice a6.out; subst i0))
  go_ret
  exact ⟨er, pB HB.out⟩
 rw [if_neg c2] at H
 obtain ⟨g3, g4⟩ := qf c2
 obtain rfl := Option.some.inj H
 go_enter Try.func16, Try.ntmps16
 go_wp2_with (first | ((with_reducible refine gD 5 ?_); (try (refine q1e (by rfl) ?_; dsimp only)); refine Kd.S_lit k49 _ 49 ?hg (N := 5) ?hd (xs := ([(⟨([] : List Int), 1, 0, 1⟩ : S49)] : List (S49))) (inner := [.slice none 0 0, .int .i64 1, .int .i64 0, .int .i64 1]) (ok := fun _ => True) (okp := fun _ => True) ?hr ?hp (fun _ hk => hk) trivial (Below.refl _ _) (Nat.le_refl _) (by simp) ?_; (case hd => rfl); (case hg => rfl); (case hr => first | (go_simp; done) | (go_simp; rfl)); (case hp => exact (Reps.c4 (show Kd.M k49 _ _ _ (⟨([] : List Int), 1, 0, 1⟩ : S49) [.slice none 0 0, .int .i64 1, .int .i64 0, .int .i64 1] from (k49_mkM _ _ _ (⟨([] : List Int), 1, 0, 1⟩ : S49) (Kd.R_nil _ _ _ _ _))) (Reps.none _ _))); intro e9 l3 e4 hb e7 d0; clear e7 d0; (first | rw [← c9.out] at e4 | (simp only [Int.reduceToNat] at e4; rw [← c9.out] at e4)); have a7 := am (Kd.S_lower e4 (q0p (pB HB.out))); replace HB := bS HB hb; clear hb e4; obtain ⟨g1, h2, i1⟩ := Kd.S_slice a7.out; subst i1) | ((with_reducible refine gC 10 ?_); refine gL 7 Try.func10 #[.string (⟨#[107]⟩ : ByteArray), .agg #[.string (⟨#[97]⟩ : ByteArray), .slice g1 y241.length h2]] ?_; (with_reducible refine (Gg.calls k (⟨#[107]⟩ : ByteArray) (⟨#[97]⟩ : ByteArray) (fun k_ => True) _ _ y241 b6 b7 b8 b9 b5 e5 _ ?side1 A1.out).mono ?_); (case side1 => exact Kd.S_V (a7.out)); rintro e l4 ⟨f1, f2, rfl, e0, e1, hb⟩; refine ⟨_, rfl, ?_⟩; replace a7 := am (Kd.S_below (pS a7.out) hb); have b4 := vL (ok' := fun k_ => True) HB e0 (fun k_ c8 => trivial); have a6 := vL (ok' := fun k_ => True) HB e1 (fun k_ c8 => trivial); replace HB := bS HB hb; (try clear hb); (try clear e0); (try clear e1)) | ((with_reducible refine gD 1 ?_); (try (refine q1e (by rfl) ?_; dsimp only)); refine bz 1 #[.string (⟨#[]⟩ : ByteArray), .string (⟨#[]⟩ : ByteArray), .slice none 0 0, .int .i64 0, .slice none 0 0] 27 HB ?_; clear HB; intro a0 hg l5 hb c6 d7 HB; replace a7 := am (Kd.S_below (pS a7.out) hb); replace b4 := vE b4 hg hb; replace a6 := vE a6 hg hb; clear hb hg; have f8 := y5 c6; obtain ⟨j0, j7, i2⟩ := Kd.V_slice b4.out; subst i2; obtain ⟨j1, j8, i3⟩ := Kd.V_slice a6.out; subst i3))
 go_ret
 exact ⟨er, pB HB.out⟩
end Go.Proofs.Ytabmkighhmchmaa.X
