/- Words and walks for the law RunTolds, joined and made small by a program of mine. -/
import Derived.Test.YtabmkighhmchmaaB2
import Derived.Test.YtabmkighhmchmaaB7
import Derived.Test.YtabmkighhmchmaaB5
namespace Go.Proofs.Ytabmkighhmchmaa.X
open Go.RowKit Go.YW.PrintWords Go.YW.PrintLast Go.YW.PrintMore Go.YW.Sq
attribute [local go_sem] q1a q0x q1d q1c q0t q0s q0y q0w
set_option linter.unusedVariables false
set_option linter.unusedSimpArgs false
mutual
def Fa.j0 : Nat → Bool → ByteArray → ByteArray → List (S49) → Int → List (S51) → Option (Bool)
 | 0, _, _, _, _, _, _ => none
 | k + 1, a5, a1, a2, a3, a4, a0 => if a5 = true then (some false) else (Fa.l0 k a0 (a0.length : Int) 0 a1 a2 a3 a4 a0)
def Fa.l0 : Nat → List (S51) → Int → Int → ByteArray → ByteArray → List (S49) → Int → List (S51) → Option (Bool)
 | 0, _, _, _, _, _, _, _, _ => none
 | k + 1, a2, a8, a1, a3, a4, a0, a5, a6 => if a1 < a8 then (if 0 ≤ a1 then (if a1 < (a2.length : Int) then (if a1 < (a0.length : Int) then ((Fc.f k ((q0d a0 a1).f0) ((q0d a0 a1).f1) ((q0d a0 a1).f2) ((q0d a0 a1).f3) ((q0a a2 a1).f0) ((q0a a2 a1).f1) ((q0a a2 a1).f2) ((q0a a2 a1).f3) ((q0a a2 a1).f4)).bind fun a7 => (if a7 = true then (Fa.l1 k a1 0 a2 a8 a1 a3 a4 a0 a5 a6 ((q0a a2 a1).f0) ((q0a a2 a1).f1) ((q0a a2 a1).f2) ((q0a a2 a1).f3) ((q0a a2 a1).f4)) else (some false))) else (none)) else (none)) else (none)) else (some true)
def Fa.l1 : Nat → Int → Int → List (S51) → Int → Int → ByteArray → ByteArray → List (S49) → Int → List (S51) → Int → Int → Int → Int → ByteArray → Option (Bool)
 | 0, _, _, _, _, _, _, _, _, _, _, _, _, _, _, _ => none
 | k + 1, x3, x5, b0, b1, b2, a2, a3, a4, a5, a0, a6, a7, a8, a1, a9 => if x5 < x3 then (if a1 > 0 then (if 0 ≤ x5 then (if x5 < (a0.length : Int) then (if ((q0a a0 x5).f3) = a1 then (some false) else (Fa.l1 k x3 (wrap64 (x5 + 1)) b0 b1 b2 a2 a3 a4 a5 a0 a6 a7 a8 a1 a9)) else (none)) else (none)) else (Fa.l1 k x3 (wrap64 (x5 + 1)) b0 b1 b2 a2 a3 a4 a5 a0 a6 a7 a8 a1 a9)) else (if a6 = 0 then ((Fm.f k a2 a3 a4 a5 a0 x3).bind fun b3 => (Fa.j3 k x3 b0 b1 b2 b3 a2 a3 a4 a5 a0 a6 a7 a8 a1 a9)) else (Fa.j3 k x3 b0 b1 b2 false a2 a3 a4 a5 a0 a6 a7 a8 a1 a9))
def Fa.j3 : Nat → Int → List (S51) → Int → Int → Bool → ByteArray → ByteArray → List (S49) → Int → List (S51) → Int → Int → Int → Int → ByteArray → Option (Bool)
 | 0, _, _, _, _, _, _, _, _, _, _, _, _, _, _, _ => none
 | k + 1, x3, b1, b2, b3, b4, a0, a1, a2, a3, a4, a5, a6, a7, a8, a9 => if b4 = true then (some false) else (if a5 = 0 then (Fa.l0 k b1 b2 (wrap64 (b3 + 1)) a0 a1 a2 a3 a4) else (if a5 = 5 then (Fa.l0 k b1 b2 (wrap64 (b3 + 1)) a0 a1 a2 a3 a4) else ((Fm.f k a0 a1 a2 a3 a4 x3).bind fun b0 => (if b0 = true then (Fa.l0 k b1 b2 (wrap64 (b3 + 1)) a0 a1 a2 a3 a4) else (some false)))))
end
def Fa.f (k : Nat) (a0 : ByteArray) (a2 : ByteArray) (a1 : List (S49)) (a4 : Int) (a3 : List (S51)) : Option (Bool) := if (a0.size : Int) < 1 then (Fa.j0 k true a0 a2 a1 a4 a3) else (if (a0.size : Int) > 16 then (Fa.j0 k true a0 a2 a1 a4 a3) else ((Fq.f k a2 a1).bind fun a5 => (if a5 = 0 then (if (a3.length : Int) = (a1.length : Int) then ((Fx.f k a0 a2 a1 a4 a3).bind fun a6 => (Fa.j0 k (!a6) a0 a2 a1 a4 a3)) else (Fa.j0 k true a0 a2 a1 a4 a3)) else (Fa.j0 k true a0 a2 a1 a4 a3))))
def Fa.T6 : Bool × List (List Nat × List Nat) := (true, [([], []), ([0], [0]), ([1], [1]), ([], []), ([2, 3], [2, 3]), ([4], [4]), ([], []), ([5, 6], [5, 6]), ([7], [7])])
def Fa.B6 : List Nat := [0, 1, 3, 0, 15, 31, 0, 127, 255]
theorem Fa.tab6 : rtab .any (opsOf Try.f15 6) = Fa.T6 := by kernel_rfl
theorem Fa.bits6 : q3k Fa.T6.2 Fa.B6 = true := by kernel_rfl
def Fa.T11 : Bool × List (List Nat × List Nat) := (true, [([], []), ([0], [0]), ([1], [1]), ([2], [2]), ([3], [3]), ([4, 3], [3, 4]), ([3], [3]), ([5, 6, 3], [3, 5, 6]), ([7, 3], [3, 7]), ([8, 3], [3, 8]), ([3], [3]), ([10, 3], [3, 10]), ([9, 11, 3], [3, 9, 11]), ([3, 12], [3, 12])])
def Fa.B11 : List Nat := [0, 1, 3, 7, 15, 31, 15, 127, 255, 511, 15, 1039, 4095, 8191]
theorem Fa.tab11 : rtab .any (opsOf Try.f15 11) = Fa.T11 := by kernel_rfl
theorem Fa.bits11 : q3k Fa.T11.2 Fa.B11 = true := by kernel_rfl
set_option maxHeartbeats 8000000 in
set_option maxRecDepth 100000 in
theorem Fa.calls (k : Nat) (b7 : ByteArray) (d5 : ByteArray) (i2 : Option Addr) (f9 : Nat) (a5 : List (S49)) (d6 : Int) (i3 : Option Addr) (g0 : Nat) (a2 : List (S51)) (r : Bool) (w : World) (j5 : Kd.C k49 w i2 a5.length a5) (j2 : a5.length ≤ f9) (j6 : Kd.C k51 w i3 a2.length a2) (j4 : a2.length ≤ g0) (h : Fa.f k b7 d5 a5 d6 a2 = some r) :
  Calls Try.prog 15 #[.agg #[.string b7, .string d5, .slice i2 a5.length f9, .int .i64 d6, .slice i3 a2.length g0]] w fun e w' => e = .returned (.bool r) ∧ Below w.heap.size w w' := by
 have s8 := Try.underlying27
 have s7 := Try.underlying24
 have t0 := Try.underlying51
 have s9 := Try.underlying49
 have e2 := am j5
 have f8 := am j2
 clear j5 j2
 have f6 := am j6
 have h4 := am j4
 clear j6 j4
 have HB := am (Below.refl w.heap.size w)
 unfold Fa.f at h
 have H := h
 clear h
 have q0 := am H
 clear H
 go_enter Try.func15, Try.ntmps15
 go_upto_region 1 with (first | ((with_reducible refine gD 1 ?_); (try (refine q1g (by rfl) ?_; dsimp only)); refine bz 1 #[.string b7, .string d5, .slice i2 a5.length f9, .int .i64 d6, .slice i3 a2.length g0] 27 HB ?_; clear HB; intro a9 hg w3 hb a1 r3 HB; clear hb hg))
 (try simp only [Act.put, List.setIfInBounds_toArray, List.set_cons_zero, List.set_cons_succ])
 go_cut [36] (fun t1 wc => ∃ (kq : Nat) (h6 : Bool), t1 = .bool h6 ∧ q0e (Fa.j0 kq h6 b7 d5 a5 d6 a2 = some r) ∧ q0e (kq ≤ k) ∧ q0e (wc.heap[a9]? = some (.cells #[.string b7, .string d5, (.slice i2 a5.length f9), .int .i64 d6, (.slice i3 a2.length g0)] 27 (0, 0))) ∧ q0e (Below w.heap.size w wc))
 case first =>
  have H := q0.out
  clear q0
  by_cases c4 : (b7.size : Int) < 1
  ·
   rw [if_pos c4] at H
   have i5 := decide_eq_true c4
   have q1 : decide (b7.size < 1) = true := decide_eq_true (by omega)
   clear c4
   (first | rw [i5] | (simp only [q1x, q2b]; rw [i5]) | skip)
   have H' := am H
   clear H
   have q6 := y5 a1
   go_wp2
   go_meet
   case rel => exact ⟨_, (true), el, H', ol, ⟨pk a1.out⟩, ⟨pB HB.out⟩⟩
  rw [if_neg c4] at H
  have i5 := decide_eq_false c4
  have q1 : decide (b7.size < 1) = false := decide_eq_false (by omega)
  clear c4
  (first | rw [i5] | (simp only [q1x, q2b]; rw [i5]) | skip)
  by_cases c6 : (b7.size : Int) > 16
  ·
   rw [if_pos c6] at H
   have q2 := decide_eq_true c6
   have q3 : decide (16 < b7.size) = true := decide_eq_true (by omega)
   clear c6
   have H' := am H
   clear H
   have q7 := y5 a1
   go_wp2
   go_meet
   case rel => exact ⟨_, (true), el, H', ol, ⟨pk a1.out⟩, ⟨pB HB.out⟩⟩
  rw [if_neg c6] at H
  have q2 := decide_eq_false c6
  have q3 : decide (16 < b7.size) = false := decide_eq_false (by omega)
  clear c6
  replace H := Option.bind_eq_some_iff.mp H
  obtain ⟨i8, r2, H⟩ := H
  try dsimp only at H
  have A8 := am r2
  clear r2
  by_cases c9 : i8 = 0
  ·
   rw [if_pos c9] at H
   obtain ⟨q4, q5⟩ := qt c9
   clear c9
   by_cases i7 : (a2.length : Int) = (a5.length : Int)
   ·
    rw [if_pos i7] at H
    obtain ⟨l4, l5⟩ := qt i7
    have l6 : (a2.length == a5.length) = true := by first | simpa using i7 | (simp at i7 ⊢; omega)
    clear i7
    replace H := Option.bind_eq_some_iff.mp H
    obtain ⟨n9, k7, H⟩ := H
    try dsimp only at H
    have s5 := am k7
    clear k7
    have H' := am H
    clear H
    have o5 := y5 a1
    go_wp2_with (first | (go_at_call 11; (with_reducible refine (Fq.calls k d5 _ _ a5 i8 _ ?side1 ?side2 A8.out).mono ?_); (case side1 => exact (Kd.C_below e2.out (pB HB.out))); (case side2 => exact f8.out); rintro e t6 ⟨rfl, hb⟩; replace a1 := kB a1 hb; replace HB := bS HB hb; (try clear hb); have o6 := y5 a1) | (go_at_call 39; (with_reducible refine (Fx.calls k b7 d5 _ _ a5 d6 _ _ a2 n9 _ ?side1 ?side2 ?side3 ?side4 s5.out).mono ?_); (case side1 => exact (Kd.C_below e2.out (pB HB.out))); (case side2 => exact f8.out); (case side3 => exact (Kd.C_below f6.out (pB HB.out))); (case side4 => exact h4.out); rintro e t7 ⟨rfl, hb⟩; replace a1 := kB a1 hb; replace HB := bS HB hb; (try clear hb)))
    go_meet
    case rel => exact ⟨_, (!n9), el, H', ol, ⟨pk a1.out⟩, ⟨pB HB.out⟩⟩
   rw [if_neg i7] at H
   obtain ⟨l4, l5⟩ := qf i7
   have l6 : (a2.length == a5.length) = false := by first | simpa using i7 | (simp at i7 ⊢; omega)
   have H' := am H
   clear H
   have o7 := y5 a1
   go_wp2_with (first | (go_at_call 11; (with_reducible refine (Fq.calls k d5 _ _ a5 i8 _ ?side1 ?side2 A8.out).mono ?_); (case side1 => exact (Kd.C_below e2.out (pB HB.out))); (case side2 => exact f8.out); rintro e t8 ⟨rfl, hb⟩; replace a1 := kB a1 hb; replace HB := bS HB hb; (try clear hb); have o8 := y5 a1))
   go_meet
   case rel => exact ⟨_, (true), el, H', ol, ⟨pk a1.out⟩, ⟨pB HB.out⟩⟩
  rw [if_neg c9] at H
  obtain ⟨q4, q5⟩ := qf c9
  have H' := am H
  clear H
  have o9 := y5 a1
  go_wp2_with (first | (go_at_call 11; (with_reducible refine (Fq.calls k d5 _ _ a5 i8 _ ?side1 ?side2 A8.out).mono ?_); (case side1 => exact (Kd.C_below e2.out (pB HB.out))); (case side2 => exact f8.out); rintro e t9 ⟨rfl, hb⟩; replace a1 := kB a1 hb; replace HB := bS HB hb; (try clear hb)))
  go_meet
  case rel => exact ⟨_, (true), el, H', ol, ⟨pk a1.out⟩, ⟨pB HB.out⟩⟩
 case rest =>
  clear q0
  obtain ⟨kq, h6, rfl, HA, h9, a1, HB⟩ := hcut
  cases kq with
  | zero => exact absurd HA.out (by simp [Fa.j0])
  | succ s4 =>
   have H := HA.out
   clear HA
   simp only [Fa.j0] at H
   by_cases k5 : h6 = true
   ·
    subst k5
    rw [if_pos rfl] at H
    try dsimp only at H
    obtain rfl := Option.some.inj H
    go_wp2
    go_ret
    exact ⟨er, pB HB.out⟩
   replace k5 := Bool.eq_false_iff.mpr k5
   subst k5
   rw [if_neg (show ¬ (false = true) by decide)] at H
   try dsimp only at H
   have H' := am H
   clear H
   have g4 := y5 a1
   go_wp2
   go_loopg [40] s4 (fun kq t2 w' => ∃ (a0 : Int), t2 = .int .i64 a0 ∧ q0e (Fa.l0 kq a2 (a2.length : Int) a0 b7 d5 a5 d6 a2 = some r) ∧ q0e (kq ≤ s4) ∧ q0e (w'.heap[a9]? = some (.cells #[.string b7, .string d5, (.slice i2 a5.length f9), .int .i64 d6, (.slice i3 a2.length g0)] 27 (0, 0))) ∧ q0e (Below w.heap.size w w'))
   case atStart => exact ⟨(0), el, H', ⟨Nat.le_refl _⟩, ⟨pk a1.out⟩, ⟨pB HB.out⟩⟩
   case round =>
    clear H'
    try clear k5
    try clear g4
    try clear a1; try clear HB
    obtain ⟨a0, rfl, HA, i0, a1, HB⟩ := hrel
    cases gk with
    | zero => exact absurd HA.out (by simp [Fa.l0])
    | succ k2 =>
     have H := HA.out
     clear HA
     simp only [Fa.l0] at H
     by_cases j8 : a0 < (a2.length : Int)
     ·
      rw [if_pos j8] at H
      have i9 := decide_eq_true j8
      clear j8
      by_cases l7 : 0 ≤ a0
      ·
       rw [if_pos l7] at H
       have l8 := decide_eq_true l7
       clear l7
       by_cases l9 : a0 < (a2.length : Int)
       ·
        rw [if_pos l9] at H
        have m0 := decide_eq_true l9
        clear l9
        by_cases m1 : a0 < (a5.length : Int)
        ·
         rw [if_pos m1] at H
         have m2 := decide_eq_true m1
         clear m1
         replace H := Option.bind_eq_some_iff.mp H
         obtain ⟨q8, k8, H⟩ := H
         try dsimp only at H
         have r0 := am k8
         clear k8
         by_cases m3 : q8 = true
         ·
          subst m3
          rw [if_pos rfl] at H
          try dsimp only at H
          have H' := am H
          clear H
          have g5 : 0 ≤ (a0 : Int) := od
          have g7 : a0 < (a2.length : Int) := od
          obtain ⟨a7, k0, d7, d8, d9, e0, e1⟩ := q1i f6.out a0 g5 g7
          cases k0
          replace d7 := bX HB d7
          replace d8 := bX HB d8
          replace d9 := bX HB d9
          replace e0 := bX HB e0
          replace e1 := bX HB e1
          replace g5 := eq_true g5
          replace g7 := eq_true g7
          try go_wp2_with (first | ((with_reducible refine gD 4 ?_); (try (refine q1g (by rfl) ?_; dsimp only)); refine bz 4 #[.int .i64 0, .int .i64 0, .int .i64 0, .int .i64 0, .string (⟨#[]⟩ : ByteArray)] 51 HB ?_; clear HB; intro a4 hg t4 hb a3 l3 HB; have h8 := nL hg a1; have b1 := nG hg a1; replace a1 := kB a1 hb; clear hb hg; have r6 := nn b1; have h5 := y5 a3))
          obtain ⟨w32, hw⟩ : ∃ x, x = (((((t4.setCell ⟨a4, 0, none⟩ (.int .i64 ((q0a a2 a0).f0))).setCell ⟨a4, 1, none⟩ (.int .i64 ((q0a a2 a0).f1))).setCell ⟨a4, 2, none⟩ (.int .i64 ((q0a a2 a0).f2))).setCell ⟨a4, 3, none⟩ (.int .i64 ((q0a a2 a0).f3))).setCell ⟨a4, 4, none⟩ (.string ((q0a a2 a0).f4))) := ⟨_, rfl⟩
          have n6 := kW hw a1
          have n7 := pW (cs' := #[.int .i64 ((q0a a2 a0).f0), .int .i64 ((q0a a2 a0).f1), .int .i64 ((q0a a2 a0).f2), .int .i64 ((q0a a2 a0).f3), .string ((q0a a2 a0).f4)]) hw a3
          have n8 := bW hw HB
          (try clear a1)
          (try clear a3)
          (try clear HB)
          rw [← hw]
          clear hw
          have a1 := n6
          have a3 := n7
          have HB := n8
          clear n6 n7 n8
          replace a1 := am (q0g a1.out)
          replace a3 := am (q0g a3.out)
          replace HB := am (q0b HB.out)
          have g6 : 0 ≤ (a0 : Int) := od
          have g8 : a0 < (a5.length : Int) := od
          obtain ⟨b2, f7, g1, k1, b3, b4, b5, b6, e5, e4⟩ := q1r e2.out a0 g6 g8
          have c8 := b6
          have c7 := b5
          have b9 := b4
          have b8 := b3
          cases k1
          replace b3 := bX HB b3
          replace b4 := bX HB b4
          replace b5 := bX HB b5
          replace b6 := bX HB b6
          have e3 := am e4
          have g2 := am e5
          clear e4 e5
          replace g6 := eq_true g6
          replace g8 := eq_true g8
          refine q2j (n := 9) (S := fun w' => w'.cell? ⟨a9, 0, none⟩ = some (.string b7) ∧ w'.cell? ⟨a9, 1, none⟩ = some (.string d5) ∧ w'.cell? ⟨a9, 2, none⟩ = some (.slice (some b2) a5.length f9) ∧ w'.cell? ⟨a9, 3, none⟩ = some (.int .i64 d6) ∧ w'.cell? ⟨a9, 4, none⟩ = some (.slice (some a7) a2.length g0) ∧ w'.cell? ⟨a4, 0, none⟩ = some (.int .i64 ((q0a a2 a0).f0)) ∧ w'.cell? ⟨a4, 1, none⟩ = some (.int .i64 ((q0a a2 a0).f1)) ∧ w'.cell? ⟨a4, 2, none⟩ = some (.int .i64 ((q0a a2 a0).f2)) ∧ w'.cell? ⟨a4, 3, none⟩ = some (.int .i64 ((q0a a2 a0).f3)) ∧ w'.cell? ⟨a4, 4, none⟩ = some (.string ((q0a a2 a0).f4)) ∧ w'.cell? (b2.add ((a0).toNat * 4)) = some (.slice f7 ((q0d a5 a0).f0).length g1) ∧ w'.cell? ⟨(b2.add ((a0).toNat * 4)).block, (b2.add ((a0).toNat * 4)).off + 1, none⟩ = some (.int .i64 ((q0d a5 a0).f1)) ∧ w'.cell? ⟨(b2.add ((a0).toNat * 4)).block, (b2.add ((a0).toNat * 4)).off + 2, none⟩ = some (.int .i64 ((q0d a5 a0).f2)) ∧ w'.cell? ⟨(b2.add ((a0).toNat * 4)).block, (b2.add ((a0).toNat * 4)).off + 3, none⟩ = some (.int .i64 ((q0d a5 a0).f3))) (ds := []) (ba 9 0) (by kernel_rfl) rfl rfl ⟨bc a1.out, bc a1.out, bc a1.out, bc a1.out, bc a1.out, bc a3.out, bc a3.out, bc a3.out, bc a3.out, bc a3.out, ((HB.out.cell (World.block_lt_of_cell? w _ b8)).trans b8), ((HB.out.cell (World.block_lt_of_cell? w _ b9)).trans b9), ((HB.out.cell (World.block_lt_of_cell? w _ c7)).trans c7), ((HB.out.cell (World.block_lt_of_cell? w _ c8)).trans c8)⟩ (fun a8 => ?_); refine q2m Fa.tab6 Fa.bits6 (fun b0 g3 => ?_)
          generalize w32.drew = u0 at a1 a3 HB e3 b3 b4 b5 b6 a8 ⊢
          refine pu 0 45 (ba 9 1) b0 ?_
          refine pu 1 46 (ba 9 3) b0 ?_
          refine pu 3 48 (ba 9 11) b0 ?_
          refine tk 2 47 (ba 9 15) b0 g3 a8 ?_
          refine pu 4 49 (ba 9 31) b0 ?_
          refine tk 5 50 (ba 9 63) b0 g3 a8 ?_
          refine tk 6 51 (ba 9 127) b0 g3 a8 ?_
          refine one_ (i := 7) (N := some 52) (ba 9 255) rfl rfl (q3i b0.out (by kernel_rfl)) (by decide) (fun K hK => ?_)
          refine q1v Try.func40 (by kernel_rfl) rfl #[.agg #[.slice f7 ((q0d a5 a0).f0).length g1, .int .i64 ((q0d a5 a0).f1), .int .i64 ((q0d a5 a0).f2), .int .i64 ((q0d a5 a0).f3)], .agg #[.int .i64 ((q0a a2 a0).f0), .int .i64 ((q0a a2 a0).f1), .int .i64 ((q0a a2 a0).f2), .int .i64 ((q0a a2 a0).f3), .string ((q0a a2 a0).f4)]] (by rfl) rfl rfl (by (try simp only [List.map_toArray, List.map_cons, List.map_nil]); first | done | rfl | (simp only [List.length_drop, List.length_take]; rfl)) ?_
          with_reducible refine (Fc.calls k2 _ _ ((q0d a5 a0).f0) ((q0d a5 a0).f1) ((q0d a5 a0).f2) ((q0d a5 a0).f3) ((q0a a2 a0).f0) ((q0a a2 a0).f1) ((q0a a2 a0).f2) ((q0a a2 a0).f3) ((q0a a2 a0).f4) true _ ?side1 ?side2 r0.out).mono ?_
          (case side1 => exact (Kd.C_below e3.out (pB HB.out)))
          (case side2 => exact g2.out)
          rintro e u1 ⟨rfl, hb⟩
          refine ⟨_, rfl, ?_⟩
          replace a1 := kB a1 hb
          replace a3 := kB a3 hb
          replace HB := bS HB hb
          (try clear hb)
          (try clear hb2)
          (try clear hk)
          (try clear hi)
          refine hK.out _ _ ⟨bc a1.out, bc a1.out, bc a1.out, bc a1.out, bc a1.out, bc a3.out, bc a3.out, bc a3.out, bc a3.out, bc a3.out, ((HB.out.cell (World.block_lt_of_cell? w _ b8)).trans b8), ((HB.out.cell (World.block_lt_of_cell? w _ b9)).trans b9), ((HB.out.cell (World.block_lt_of_cell? w _ c7)).trans c7), ((HB.out.cell (World.block_lt_of_cell? w _ c8)).trans c8)⟩ (fun a8 => ?_)
          clear hK K
          refine nh ?_
          refine pu 8 53 (ba 9 511) b0 ?_
          refine q2c (q3l b0.out (by kernel_rfl)) ?_
          try go_wp2
          go_loopg [5] k2 (fun kq v5 w' => ∃ (a6 : Int), v5 = .int .i64 a6 ∧ q0e (Fa.l1 kq a0 a6 a2 (a2.length : Int) a0 b7 d5 a5 d6 a2 ((q0a a2 a0).f0) ((q0a a2 a0).f1) ((q0a a2 a0).f2) ((q0a a2 a0).f3) ((q0a a2 a0).f4) = some r) ∧ q0e (kq ≤ k2) ∧ q0e (w'.heap[a9]? = some (.cells #[.string b7, .string d5, (.slice (some b2) a5.length f9), .int .i64 d6, (.slice (some a7) a2.length g0)] 27 (0, 0))) ∧ q0e (w'.heap[a4]? = some (.cells #[.int .i64 ((q0a a2 a0).f0), .int .i64 ((q0a a2 a0).f1), .int .i64 ((q0a a2 a0).f2), .int .i64 ((q0a a2 a0).f3), .string ((q0a a2 a0).f4)] 51 (0, 0))) ∧ q0e (Below w.heap.size w w'))
          case atStart => exact ⟨(0), el, H', ⟨Nat.le_refl _⟩, ⟨pk a1.out⟩, ⟨pk a3.out⟩, ⟨pB HB.out⟩⟩
          case round =>
           clear H'
           try clear k5
           try clear j8
           try clear i9
           try clear l7
           try clear l8
           try clear l9
           try clear m0
           try clear m1
           try clear m2
           try clear m3
           try clear g4
           try clear h5
           try clear d7
           try clear d8
           try clear d9
           try clear e0
           try clear e1
           try clear b3
           try clear b4
           try clear b5
           try clear b6
           try clear g5
           try clear g6
           try clear g7
           try clear g8
           try clear a1; try clear a3; try clear HB
           obtain ⟨a6, rfl, HA, i1, a1, a3, HB⟩ := hrel
           cases gk with
           | zero => exact absurd HA.out (by simp [Fa.l1])
           | succ k3 =>
            have H := HA.out
            clear HA
            simp only [Fa.l1] at H
            by_cases j9 : a6 < a0
            ·
             rw [if_pos j9] at H
             have j1 := decide_eq_true j9
             clear j9
             by_cases k6 : ((q0a a2 a0).f3) > 0
             ·
              rw [if_pos k6] at H
              have m4 := decide_eq_true k6
              clear k6
              by_cases o1 : 0 ≤ a6
              ·
               rw [if_pos o1] at H
               have r4 := decide_eq_true o1
               clear o1
               by_cases o2 : a6 < (a2.length : Int)
               ·
                rw [if_pos o2] at H
                have r5 := decide_eq_true o2
                clear o2
                by_cases m5 : ((q0a a2 a6).f3) = ((q0a a2 a0).f3)
                ·
                 rw [if_pos m5] at H
                 obtain ⟨m6, m7⟩ := qt m5
                 clear m5
                 obtain rfl := Option.some.inj H
                 try go_wp2
                 replace a1 := am (q0g a1.out)
                 replace a3 := am (q0g a3.out)
                 replace HB := am (q0b HB.out)
                 have h2 : 0 ≤ (a6 : Int) := od
                 have h3 : a6 < (a2.length : Int) := od
                 obtain ⟨i4, k4, d0, d1, d2, d3, d4⟩ := q1i f6.out a6 h2 h3
                 have f5 := d4
                 have e9 := d3
                 have e8 := d2
                 have e7 := d1
                 have e6 := d0
                 obtain rfl : a7 = i4 := (by injection k4)
                 replace d0 := bX HB d0
                 replace d1 := bX HB d1
                 replace d2 := bX HB d2
                 replace d3 := bX HB d3
                 replace d4 := bX HB d4
                 replace h2 := eq_true h2
                 replace h3 := eq_true h3
                 refine q2j (n := 14) (S := fun w' => w'.cell? ⟨a4, 0, none⟩ = some (.int .i64 ((q0a a2 a0).f0)) ∧ w'.cell? ⟨a4, 1, none⟩ = some (.int .i64 ((q0a a2 a0).f1)) ∧ w'.cell? ⟨a4, 2, none⟩ = some (.int .i64 ((q0a a2 a0).f2)) ∧ w'.cell? ⟨a4, 3, none⟩ = some (.int .i64 ((q0a a2 a0).f3)) ∧ w'.cell? ⟨a4, 4, none⟩ = some (.string ((q0a a2 a0).f4)) ∧ w'.cell? ⟨a9, 0, none⟩ = some (.string b7) ∧ w'.cell? ⟨a9, 1, none⟩ = some (.string d5) ∧ w'.cell? ⟨a9, 2, none⟩ = some (.slice (some b2) a5.length f9) ∧ w'.cell? ⟨a9, 3, none⟩ = some (.int .i64 d6) ∧ w'.cell? ⟨a9, 4, none⟩ = some (.slice (some a7) a2.length g0) ∧ w'.cell? (a7.add ((a6).toNat * 5)) = some (.int .i64 ((q0a a2 a6).f0)) ∧ w'.cell? ⟨(a7.add ((a6).toNat * 5)).block, (a7.add ((a6).toNat * 5)).off + 1, none⟩ = some (.int .i64 ((q0a a2 a6).f1)) ∧ w'.cell? ⟨(a7.add ((a6).toNat * 5)).block, (a7.add ((a6).toNat * 5)).off + 2, none⟩ = some (.int .i64 ((q0a a2 a6).f2)) ∧ w'.cell? ⟨(a7.add ((a6).toNat * 5)).block, (a7.add ((a6).toNat * 5)).off + 3, none⟩ = some (.int .i64 ((q0a a2 a6).f3)) ∧ w'.cell? ⟨(a7.add ((a6).toNat * 5)).block, (a7.add ((a6).toNat * 5)).off + 4, none⟩ = some (.string ((q0a a2 a6).f4))) (ds := []) (ba 14 0) (by kernel_rfl) rfl rfl ⟨bc a3.out, bc a3.out, bc a3.out, bc a3.out, bc a3.out, bc a1.out, bc a1.out, bc a1.out, bc a1.out, bc a1.out, ((HB.out.cell (World.block_lt_of_cell? w _ e6)).trans e6), ((HB.out.cell (World.block_lt_of_cell? w _ e7)).trans e7), ((HB.out.cell (World.block_lt_of_cell? w _ e8)).trans e8), ((HB.out.cell (World.block_lt_of_cell? w _ e9)).trans e9), ((HB.out.cell (World.block_lt_of_cell? w _ f5)).trans f5)⟩ (fun a8 => ?_); refine q2m Fa.tab11 Fa.bits11 (fun b0 g3 => ?_)
                 generalize wr.drew = u2 at a1 a3 HB d0 d1 d2 d3 d4 a8 ⊢
                 refine pu 0 59 (ba 14 1) b0 ?_
                 refine tk 1 60 (ba 14 3) b0 g3 a8 ?_
                 refine pu 2 61 (ba 14 7) b0 ?_
                 refine pu 3 62 (ba 14 15) b0 ?_
                 refine pu 4 63 (ba 14 31) b0 ?_
                 refine pu 6 65 (ba 14 95) b0 ?_
                 refine pu 10 69 (ba 14 1119) b0 ?_
                 refine tk 5 64 (ba 14 1151) b0 g3 a8 ?_
                 refine pu 7 66 (ba 14 1279) b0 ?_
                 refine pu 8 67 (ba 14 1535) b0 ?_
                 refine tk 9 68 (ba 14 2047) b0 g3 a8 ?_
                 refine tk 11 70 (ba 14 4095) b0 g3 a8 ?_
                 refine pu 12 71 (ba 14 8191) b0 ?_
                 refine pu 13 72 (ba 14 16383) b0 ?_
                 refine q2c (q3l b0.out (by kernel_rfl)) ?_
                 try go_wp2
                 go_ret
                 exact ⟨er, pB HB.out⟩
                rw [if_neg m5] at H
                obtain ⟨m6, m7⟩ := qf m5
                have H' := am H
                clear H
                try go_wp2
                replace a1 := am (q0g a1.out)
                replace a3 := am (q0g a3.out)
                replace HB := am (q0b HB.out)
                have h2 : 0 ≤ (a6 : Int) := od
                have h3 : a6 < (a2.length : Int) := od
                obtain ⟨i4, k4, d0, d1, d2, d3, d4⟩ := q1i f6.out a6 h2 h3
                have f5 := d4
                have e9 := d3
                have e8 := d2
                have e7 := d1
                have e6 := d0
                obtain rfl : a7 = i4 := (by injection k4)
                replace d0 := bX HB d0
                replace d1 := bX HB d1
                replace d2 := bX HB d2
                replace d3 := bX HB d3
                replace d4 := bX HB d4
                replace h2 := eq_true h2
                replace h3 := eq_true h3
                refine q2j (n := 14) (S := fun w' => w'.cell? ⟨a4, 0, none⟩ = some (.int .i64 ((q0a a2 a0).f0)) ∧ w'.cell? ⟨a4, 1, none⟩ = some (.int .i64 ((q0a a2 a0).f1)) ∧ w'.cell? ⟨a4, 2, none⟩ = some (.int .i64 ((q0a a2 a0).f2)) ∧ w'.cell? ⟨a4, 3, none⟩ = some (.int .i64 ((q0a a2 a0).f3)) ∧ w'.cell? ⟨a4, 4, none⟩ = some (.string ((q0a a2 a0).f4)) ∧ w'.cell? ⟨a9, 0, none⟩ = some (.string b7) ∧ w'.cell? ⟨a9, 1, none⟩ = some (.string d5) ∧ w'.cell? ⟨a9, 2, none⟩ = some (.slice (some b2) a5.length f9) ∧ w'.cell? ⟨a9, 3, none⟩ = some (.int .i64 d6) ∧ w'.cell? ⟨a9, 4, none⟩ = some (.slice (some a7) a2.length g0) ∧ w'.cell? (a7.add ((a6).toNat * 5)) = some (.int .i64 ((q0a a2 a6).f0)) ∧ w'.cell? ⟨(a7.add ((a6).toNat * 5)).block, (a7.add ((a6).toNat * 5)).off + 1, none⟩ = some (.int .i64 ((q0a a2 a6).f1)) ∧ w'.cell? ⟨(a7.add ((a6).toNat * 5)).block, (a7.add ((a6).toNat * 5)).off + 2, none⟩ = some (.int .i64 ((q0a a2 a6).f2)) ∧ w'.cell? ⟨(a7.add ((a6).toNat * 5)).block, (a7.add ((a6).toNat * 5)).off + 3, none⟩ = some (.int .i64 ((q0a a2 a6).f3)) ∧ w'.cell? ⟨(a7.add ((a6).toNat * 5)).block, (a7.add ((a6).toNat * 5)).off + 4, none⟩ = some (.string ((q0a a2 a6).f4))) (ds := []) (ba 14 0) (by kernel_rfl) rfl rfl ⟨bc a3.out, bc a3.out, bc a3.out, bc a3.out, bc a3.out, bc a1.out, bc a1.out, bc a1.out, bc a1.out, bc a1.out, ((HB.out.cell (World.block_lt_of_cell? w _ e6)).trans e6), ((HB.out.cell (World.block_lt_of_cell? w _ e7)).trans e7), ((HB.out.cell (World.block_lt_of_cell? w _ e8)).trans e8), ((HB.out.cell (World.block_lt_of_cell? w _ e9)).trans e9), ((HB.out.cell (World.block_lt_of_cell? w _ f5)).trans f5)⟩ (fun a8 => ?_); refine q2m Fa.tab11 Fa.bits11 (fun b0 g3 => ?_)
                generalize wr.drew = u3 at a1 a3 HB d0 d1 d2 d3 d4 a8 ⊢
                refine pu 0 59 (ba 14 1) b0 ?_
                refine tk 1 60 (ba 14 3) b0 g3 a8 ?_
                refine pu 2 61 (ba 14 7) b0 ?_
                refine pu 3 62 (ba 14 15) b0 ?_
                refine pu 4 63 (ba 14 31) b0 ?_
                refine pu 6 65 (ba 14 95) b0 ?_
                refine pu 10 69 (ba 14 1119) b0 ?_
                refine tk 5 64 (ba 14 1151) b0 g3 a8 ?_
                refine pu 7 66 (ba 14 1279) b0 ?_
                refine pu 8 67 (ba 14 1535) b0 ?_
                refine tk 9 68 (ba 14 2047) b0 g3 a8 ?_
                refine tk 11 70 (ba 14 4095) b0 g3 a8 ?_
                refine pu 12 71 (ba 14 8191) b0 ?_
                refine pu 13 72 (ba 14 16383) b0 ?_
                refine q2c (q3l b0.out (by kernel_rfl)) ?_
                try go_wp2
                go_roundg k3
                case measure => have := h9.out; have := i0.out; have := i1.out; omega
                case rel => exact ⟨(wrap64 (a6 + 1)), el, H', ⟨by have := h9.out; have := i0.out; have := i1.out; omega⟩, ⟨pk a1.out⟩, ⟨pk a3.out⟩, ⟨pB HB.out⟩⟩
               rw [if_neg o2] at H
               exact absurd H (by simp)
              rw [if_neg o1] at H
              exact absurd H (by simp)
             rw [if_neg k6] at H
             have m4 := decide_eq_false k6
             clear k6
             have H' := am H
             clear H
             try go_wp2
             replace a1 := am (q0g a1.out)
             replace a3 := am (q0g a3.out)
             replace HB := am (q0b HB.out)
             refine q2j (n := 14) (S := fun w' => w'.cell? ⟨a4, 0, none⟩ = some (.int .i64 ((q0a a2 a0).f0)) ∧ w'.cell? ⟨a4, 1, none⟩ = some (.int .i64 ((q0a a2 a0).f1)) ∧ w'.cell? ⟨a4, 2, none⟩ = some (.int .i64 ((q0a a2 a0).f2)) ∧ w'.cell? ⟨a4, 3, none⟩ = some (.int .i64 ((q0a a2 a0).f3)) ∧ w'.cell? ⟨a4, 4, none⟩ = some (.string ((q0a a2 a0).f4))) (ds := []) (ba 14 0) (by kernel_rfl) rfl rfl ⟨bc a3.out, bc a3.out, bc a3.out, bc a3.out, bc a3.out⟩ (fun a8 => ?_); refine q2m Fa.tab11 Fa.bits11 (fun b0 g3 => ?_)
             generalize wr.drew = u4 at a1 a3 HB a8 ⊢
             refine pu 0 59 (ba 14 1) b0 ?_
             refine tk 1 60 (ba 14 3) b0 g3 a8 ?_
             refine pu 2 61 (ba 14 7) b0 ?_
             refine pu 3 62 (ba 14 15) b0 ?_
             refine pe 4 63 (ba 14 31) b0 ?_
             refine pe 5 64 (ba 14 63) b0 ?_
             refine pe 6 65 (ba 14 127) b0 ?_
             refine pe 7 66 (ba 14 255) b0 ?_
             refine pe 8 67 (ba 14 511) b0 ?_
             refine pe 9 68 (ba 14 1023) b0 ?_
             refine pe 10 69 (ba 14 2047) b0 ?_
             refine pe 11 70 (ba 14 4095) b0 ?_
             refine pe 12 71 (ba 14 8191) b0 ?_
             refine pu 13 72 (ba 14 16383) b0 ?_
             refine q2c (q3l b0.out (by kernel_rfl)) ?_
             try go_wp2
             go_roundg k3
             case measure => have := h9.out; have := i0.out; have := i1.out; omega
             case rel => exact ⟨(wrap64 (a6 + 1)), el, H', ⟨by have := h9.out; have := i0.out; have := i1.out; omega⟩, ⟨pk a1.out⟩, ⟨pk a3.out⟩, ⟨pB HB.out⟩⟩
            rw [if_neg j9] at H
            have j1 := decide_eq_false j9
            clear j9
            have j7 := am H
            clear H
            go_upto_region 13 with (fail)
            go_cut [80] (fun t3 wc => ∃ (kq : Nat) (g9 : Bool), t3 = .bool g9 ∧ q0e (Fa.j3 kq a0 a2 (a2.length : Int) a0 g9 b7 d5 a5 d6 a2 ((q0a a2 a0).f0) ((q0a a2 a0).f1) ((q0a a2 a0).f2) ((q0a a2 a0).f3) ((q0a a2 a0).f4) = some r) ∧ q0e (kq ≤ k3) ∧ q0e (wc.heap[a9]? = some (.cells #[.string b7, .string d5, (.slice (some b2) a5.length f9), .int .i64 d6, (.slice (some a7) a2.length g0)] 27 (0, 0))) ∧ q0e (wc.heap[a4]? = some (.cells #[.int .i64 ((q0a a2 a0).f0), .int .i64 ((q0a a2 a0).f1), .int .i64 ((q0a a2 a0).f2), .int .i64 ((q0a a2 a0).f3), .string ((q0a a2 a0).f4)] 51 (0, 0))) ∧ q0e (Below w.heap.size w wc))
            case first =>
             have H := j7.out
             clear j7
             by_cases m8 : ((q0a a2 a0).f0) = 0
             ·
              rw [if_pos m8] at H
              obtain ⟨h0, m9⟩ := qt m8
              clear m8
              (first | rw [h0] | (simp only [q1x, q2b]; rw [h0]) | skip)
              replace H := Option.bind_eq_some_iff.mp H
              obtain ⟨o0, k9, H⟩ := H
              try dsimp only at H
              have s6 := am k9
              clear k9
              have H' := am H
              clear H
              have r7 := nn b1
              have p0 := y5 a3
              have p1 := y5 a1
              go_wp2_with (first | (go_at_call 41; (with_reducible refine (Fm.calls k3 b7 d5 _ _ a5 d6 _ _ a2 a0 o0 _ ?side1 ?side2 ?side3 ?side4 s6.out).mono ?_); (case side1 => exact (Kd.C_below e2.out (pB HB.out))); (case side2 => exact f8.out); (case side3 => exact (Kd.C_below f6.out (pB HB.out))); (case side4 => exact h4.out); rintro e u5 ⟨rfl, hb⟩; replace a1 := kB a1 hb; replace a3 := kB a3 hb; replace HB := bS HB hb; (try clear hb)))
              go_meet
              case rel => exact ⟨_, (o0), el, H', ⟨by have := h9.out; have := i0.out; have := i1.out; first | omega | exact Nat.le_refl _⟩, ⟨pk a1.out⟩, ⟨pk a3.out⟩, ⟨pB HB.out⟩⟩
             rw [if_neg m8] at H
             obtain ⟨h0, m9⟩ := qf m8
             (first | rw [h0] | (simp only [q1x, q2b]; rw [h0]) | skip)
             have H' := am H
             clear H
             have r8 := nn b1
             have p2 := y5 a3
             go_wp2
             go_meet
             case rel => exact ⟨_, (false), el, H', ⟨by have := h9.out; have := i0.out; have := i1.out; first | omega | exact Nat.le_refl _⟩, ⟨pk a1.out⟩, ⟨pk a3.out⟩, ⟨pB HB.out⟩⟩
            case rest =>
             clear j7
             try clear j9
             try clear j1
             try clear g4
             try clear h5
             try clear d7
             try clear d8
             try clear d9
             try clear e0
             try clear e1
             try clear b3
             try clear b4
             try clear b5
             try clear b6
             try clear g5
             try clear g6
             try clear g7
             try clear g8
             obtain ⟨kq, g9, rfl, HA, h7, a1, a3, HB⟩ := hcut
             cases kq with
             | zero => exact absurd HA.out (by simp [Fa.j3])
             | succ i6 =>
              have H := HA.out
              clear HA
              simp only [Fa.j3] at H
              by_cases o3 : g9 = true
              ·
               subst o3
               rw [if_pos rfl] at H
               try dsimp only at H
               obtain rfl := Option.some.inj H
               go_wp2
               go_ret
               exact ⟨er, pB HB.out⟩
              replace o3 := Bool.eq_false_iff.mpr o3
              subst o3
              rw [if_neg (show ¬ (false = true) by decide)] at H
              try dsimp only at H
              by_cases n0 : ((q0a a2 a0).f0) = 0
              ·
               rw [if_pos n0] at H
               obtain ⟨n1, n2⟩ := qt n0
               clear n0
               have H' := am H
               clear H
               have r9 := nn b1
               have p3 := y5 a3
               go_wp2
               go_roundg i6
               case measure => have := h9.out; have := i0.out; have := i1.out; have := h7.out; omega
               case rel => exact ⟨(wrap64 (a0 + 1)), el, H', ⟨by have := h9.out; have := i0.out; have := i1.out; have := h7.out; omega⟩, ⟨pk a1.out⟩, ⟨pB HB.out⟩⟩
              rw [if_neg n0] at H
              obtain ⟨n1, n2⟩ := qf n0
              by_cases n3 : ((q0a a2 a0).f0) = 5
              ·
               rw [if_pos n3] at H
               obtain ⟨n4, n5⟩ := qt n3
               clear n3
               have H' := am H
               clear H
               have s0 := nn b1
               have p4 := y5 a3
               go_wp2
               go_roundg i6
               case measure => have := h9.out; have := i0.out; have := i1.out; have := h7.out; omega
               case rel => exact ⟨(wrap64 (a0 + 1)), el, H', ⟨by have := h9.out; have := i0.out; have := i1.out; have := h7.out; omega⟩, ⟨pk a1.out⟩, ⟨pB HB.out⟩⟩
              rw [if_neg n3] at H
              obtain ⟨n4, n5⟩ := qf n3
              replace H := Option.bind_eq_some_iff.mp H
              obtain ⟨q9, l2, H⟩ := H
              try dsimp only at H
              have r1 := am l2
              clear l2
              by_cases o4 : q9 = true
              ·
               subst o4
               rw [if_pos rfl] at H
               try dsimp only at H
               have H' := am H
               clear H
               have s1 := nn b1
               have p5 := y5 a3
               have p6 := y5 a1
               go_wp2_with (first | (go_at_call 41; (with_reducible refine (Fm.calls i6 b7 d5 _ _ a5 d6 _ _ a2 a0 true _ ?side1 ?side2 ?side3 ?side4 r1.out).mono ?_); (case side1 => exact (Kd.C_below e2.out (pB HB.out))); (case side2 => exact f8.out); (case side3 => exact (Kd.C_below f6.out (pB HB.out))); (case side4 => exact h4.out); rintro e u6 ⟨rfl, hb⟩; replace a1 := kB a1 hb; replace a3 := kB a3 hb; replace HB := bS HB hb; (try clear hb)))
               go_roundg i6
               case measure => have := h9.out; have := i0.out; have := i1.out; have := h7.out; omega
               case rel => exact ⟨(wrap64 (a0 + 1)), el, H', ⟨by have := h9.out; have := i0.out; have := i1.out; have := h7.out; omega⟩, ⟨pk a1.out⟩, ⟨pB HB.out⟩⟩
              replace o4 := Bool.eq_false_iff.mpr o4
              subst o4
              rw [if_neg (show ¬ (false = true) by decide)] at H
              try dsimp only at H
              obtain rfl := Option.some.inj H
              have s2 := nn b1
              have p7 := y5 a3
              have p8 := y5 a1
              go_wp2_with (first | (go_at_call 41; (with_reducible refine (Fm.calls i6 b7 d5 _ _ a5 d6 _ _ a2 a0 false _ ?side1 ?side2 ?side3 ?side4 r1.out).mono ?_); (case side1 => exact (Kd.C_below e2.out (pB HB.out))); (case side2 => exact f8.out); (case side3 => exact (Kd.C_below f6.out (pB HB.out))); (case side4 => exact h4.out); rintro e u7 ⟨rfl, hb⟩; replace a1 := kB a1 hb; replace a3 := kB a3 hb; replace HB := bS HB hb; (try clear hb)))
              go_ret
              exact ⟨er, pB HB.out⟩
         replace m3 := Bool.eq_false_iff.mpr m3
         subst m3
         rw [if_neg (show ¬ (false = true) by decide)] at H
         try dsimp only at H
         obtain rfl := Option.some.inj H
         have g5 : 0 ≤ (a0 : Int) := od
         have g7 : a0 < (a2.length : Int) := od
         obtain ⟨a7, k0, d7, d8, d9, e0, e1⟩ := q1i f6.out a0 g5 g7
         cases k0
         replace d7 := bX HB d7
         replace d8 := bX HB d8
         replace d9 := bX HB d9
         replace e0 := bX HB e0
         replace e1 := bX HB e1
         replace g5 := eq_true g5
         replace g7 := eq_true g7
         try go_wp2_with (first | ((with_reducible refine gD 4 ?_); (try (refine q1g (by rfl) ?_; dsimp only)); refine bz 4 #[.int .i64 0, .int .i64 0, .int .i64 0, .int .i64 0, .string (⟨#[]⟩ : ByteArray)] 51 HB ?_; clear HB; intro a4 hg t5 hb a3 l3 HB; have h8 := nL hg a1; have b1 := nG hg a1; replace a1 := kB a1 hb; clear hb hg; have s3 := nn b1; have p9 := y5 a3))
         obtain ⟨w72, hw⟩ : ∃ x, x = (((((t5.setCell ⟨a4, 0, none⟩ (.int .i64 ((q0a a2 a0).f0))).setCell ⟨a4, 1, none⟩ (.int .i64 ((q0a a2 a0).f1))).setCell ⟨a4, 2, none⟩ (.int .i64 ((q0a a2 a0).f2))).setCell ⟨a4, 3, none⟩ (.int .i64 ((q0a a2 a0).f3))).setCell ⟨a4, 4, none⟩ (.string ((q0a a2 a0).f4))) := ⟨_, rfl⟩
         have n6 := kW hw a1
         have n7 := pW (cs' := #[.int .i64 ((q0a a2 a0).f0), .int .i64 ((q0a a2 a0).f1), .int .i64 ((q0a a2 a0).f2), .int .i64 ((q0a a2 a0).f3), .string ((q0a a2 a0).f4)]) hw a3
         have n8 := bW hw HB
         (try clear a1)
         (try clear a3)
         (try clear HB)
         rw [← hw]
         clear hw
         have a1 := n6
         have a3 := n7
         have HB := n8
         clear n6 n7 n8
         replace a1 := am (q0g a1.out)
         replace a3 := am (q0g a3.out)
         replace HB := am (q0b HB.out)
         have g6 : 0 ≤ (a0 : Int) := od
         have g8 : a0 < (a5.length : Int) := od
         obtain ⟨b2, f7, g1, k1, b3, b4, b5, b6, e5, e4⟩ := q1r e2.out a0 g6 g8
         have c8 := b6
         have c7 := b5
         have b9 := b4
         have b8 := b3
         cases k1
         replace b3 := bX HB b3
         replace b4 := bX HB b4
         replace b5 := bX HB b5
         replace b6 := bX HB b6
         have e3 := am e4
         have g2 := am e5
         clear e4 e5
         replace g6 := eq_true g6
         replace g8 := eq_true g8
         refine q2j (n := 9) (S := fun w' => w'.cell? ⟨a9, 0, none⟩ = some (.string b7) ∧ w'.cell? ⟨a9, 1, none⟩ = some (.string d5) ∧ w'.cell? ⟨a9, 2, none⟩ = some (.slice (some b2) a5.length f9) ∧ w'.cell? ⟨a9, 3, none⟩ = some (.int .i64 d6) ∧ w'.cell? ⟨a9, 4, none⟩ = some (.slice (some a7) a2.length g0) ∧ w'.cell? ⟨a4, 0, none⟩ = some (.int .i64 ((q0a a2 a0).f0)) ∧ w'.cell? ⟨a4, 1, none⟩ = some (.int .i64 ((q0a a2 a0).f1)) ∧ w'.cell? ⟨a4, 2, none⟩ = some (.int .i64 ((q0a a2 a0).f2)) ∧ w'.cell? ⟨a4, 3, none⟩ = some (.int .i64 ((q0a a2 a0).f3)) ∧ w'.cell? ⟨a4, 4, none⟩ = some (.string ((q0a a2 a0).f4)) ∧ w'.cell? (b2.add ((a0).toNat * 4)) = some (.slice f7 ((q0d a5 a0).f0).length g1) ∧ w'.cell? ⟨(b2.add ((a0).toNat * 4)).block, (b2.add ((a0).toNat * 4)).off + 1, none⟩ = some (.int .i64 ((q0d a5 a0).f1)) ∧ w'.cell? ⟨(b2.add ((a0).toNat * 4)).block, (b2.add ((a0).toNat * 4)).off + 2, none⟩ = some (.int .i64 ((q0d a5 a0).f2)) ∧ w'.cell? ⟨(b2.add ((a0).toNat * 4)).block, (b2.add ((a0).toNat * 4)).off + 3, none⟩ = some (.int .i64 ((q0d a5 a0).f3))) (ds := []) (ba 9 0) (by kernel_rfl) rfl rfl ⟨bc a1.out, bc a1.out, bc a1.out, bc a1.out, bc a1.out, bc a3.out, bc a3.out, bc a3.out, bc a3.out, bc a3.out, ((HB.out.cell (World.block_lt_of_cell? w _ b8)).trans b8), ((HB.out.cell (World.block_lt_of_cell? w _ b9)).trans b9), ((HB.out.cell (World.block_lt_of_cell? w _ c7)).trans c7), ((HB.out.cell (World.block_lt_of_cell? w _ c8)).trans c8)⟩ (fun a8 => ?_); refine q2m Fa.tab6 Fa.bits6 (fun b0 g3 => ?_)
         generalize w72.drew = u8 at a1 a3 HB e3 b3 b4 b5 b6 a8 ⊢
         refine pu 0 45 (ba 9 1) b0 ?_
         refine pu 1 46 (ba 9 3) b0 ?_
         refine pu 3 48 (ba 9 11) b0 ?_
         refine tk 2 47 (ba 9 15) b0 g3 a8 ?_
         refine pu 4 49 (ba 9 31) b0 ?_
         refine tk 5 50 (ba 9 63) b0 g3 a8 ?_
         refine tk 6 51 (ba 9 127) b0 g3 a8 ?_
         refine one_ (i := 7) (N := some 52) (ba 9 255) rfl rfl (q3i b0.out (by kernel_rfl)) (by decide) (fun K hK => ?_)
         refine q1v Try.func40 (by kernel_rfl) rfl #[.agg #[.slice f7 ((q0d a5 a0).f0).length g1, .int .i64 ((q0d a5 a0).f1), .int .i64 ((q0d a5 a0).f2), .int .i64 ((q0d a5 a0).f3)], .agg #[.int .i64 ((q0a a2 a0).f0), .int .i64 ((q0a a2 a0).f1), .int .i64 ((q0a a2 a0).f2), .int .i64 ((q0a a2 a0).f3), .string ((q0a a2 a0).f4)]] (by rfl) rfl rfl (by (try simp only [List.map_toArray, List.map_cons, List.map_nil]); first | done | rfl | (simp only [List.length_drop, List.length_take]; rfl)) ?_
         with_reducible refine (Fc.calls k2 _ _ ((q0d a5 a0).f0) ((q0d a5 a0).f1) ((q0d a5 a0).f2) ((q0d a5 a0).f3) ((q0a a2 a0).f0) ((q0a a2 a0).f1) ((q0a a2 a0).f2) ((q0a a2 a0).f3) ((q0a a2 a0).f4) false _ ?side1 ?side2 r0.out).mono ?_
         (case side1 => exact (Kd.C_below e3.out (pB HB.out)))
         (case side2 => exact g2.out)
         rintro e u9 ⟨rfl, hb⟩
         refine ⟨_, rfl, ?_⟩
         replace a1 := kB a1 hb
         replace a3 := kB a3 hb
         replace HB := bS HB hb
         (try clear hb)
         (try clear hb2)
         (try clear hk)
         (try clear hi)
         refine hK.out _ _ ⟨bc a1.out, bc a1.out, bc a1.out, bc a1.out, bc a1.out, bc a3.out, bc a3.out, bc a3.out, bc a3.out, bc a3.out, ((HB.out.cell (World.block_lt_of_cell? w _ b8)).trans b8), ((HB.out.cell (World.block_lt_of_cell? w _ b9)).trans b9), ((HB.out.cell (World.block_lt_of_cell? w _ c7)).trans c7), ((HB.out.cell (World.block_lt_of_cell? w _ c8)).trans c8)⟩ (fun a8 => ?_)
         clear hK K
         refine nh ?_
         refine pu 8 53 (ba 9 511) b0 ?_
         refine q2c (q3l b0.out (by kernel_rfl)) ?_
         try go_wp2
         go_ret
         exact ⟨er, pB HB.out⟩
        rw [if_neg m1] at H
        exact absurd H (by simp)
       rw [if_neg l9] at H
       exact absurd H (by simp)
      rw [if_neg l7] at H
      exact absurd H (by simp)
     rw [if_neg j8] at H
     have i9 := decide_eq_false j8
     clear j8
     obtain rfl := Option.some.inj H
     go_wp2
     go_ret
     exact ⟨er, pB HB.out⟩
end Go.Proofs.Ytabmkighhmchmaa.X
namespace Go.YW.Sq
open Go.RowKit Go.YW.PrintWords Go.YW.PrintLast Go.YW.PrintMore
theorem vaw {α : Type} {d : Kd α} {e base n c g : Nat} {ok : Nat → Prop} {w : World} {ad : Addr} {xs : List α} (h : Kd.V d e w base ok (.slice (some ad) n c) xs) (hok : ∀ k, ok k → k ≠ g) (hs : 0 < d.sz := by first | decide | exact Nat.zero_lt_succ _) (hn : 0 < xs.length := by omega) : ad.block ≠ g := by
 obtain ⟨A, c', hv, hl, hf⟩ := h
 injection hv with h1 h2 h3
 subst h1
 exact hok _ (Kd.F_in hf rfl hn hs)
end Go.YW.Sq
namespace Go.Proofs.Ytabmkighhmchmaa.X
open Go.RowKit Go.YW.PrintWords Go.YW.PrintLast Go.YW.PrintMore Go.YW.Sq
attribute [local go_sem] q1a q0x q1d q1c q0t q0s q0y q0w
set_option linter.unusedVariables false
set_option linter.unusedSimpArgs false
def F9.f (k : Nat)  : Option (Bool) := (Gt.f k (⟨#[107]⟩ : ByteArray) (⟨#[97]⟩ : ByteArray) (([(⟨([] : List Int), 1, 0, 1⟩ : S49)] : List (S49)))).bind fun a0 => (if a0.2.2.2.2.2 = 0 then (if (a0.2.2.2.2.1.length : Int) = 1 then (if 0 < (a0.2.2.2.2.1.length : Int) then (if ((q0a a0.2.2.2.2.1 0).f0) = 1 then ((Gu.f k a0.1 a0.2.1 a0.2.2.1 a0.2.2.2.1 a0.2.2.2.2.1).bind fun a1 => (some a1)) else (some false)) else (none)) else (some false)) else (some false))
set_option maxHeartbeats 8000000 in
set_option maxRecDepth 100000 in
theorem F9.calls (k : Nat)  (r : Bool) (w : World) (h : F9.f k  = some r) :
  Calls Try.prog 16 #[] w fun e w' => e = .returned (.bool r) ∧ Below w.heap.size w w' := by
 have k3 := Try.underlying49
 have k1 := Try.underlying24
 have k2 := Try.underlying27
 have HB := am (Below.refl w.heap.size w)
 unfold F9.f at h
 have H := h
 clear h
 obtain ⟨y241, hy241⟩ : ∃ y_ : List (S49), y_ = (([(⟨([] : List Int), 1, 0, 1⟩ : S49)] : List (S49))) := ⟨_, rfl⟩
 replace H : ((Gt.f k (⟨#[107]⟩ : ByteArray) (⟨#[97]⟩ : ByteArray) y241).bind fun c7 => (if c7.2.2.2.2.2 = 0 then (if (c7.2.2.2.2.1.length : Int) = 1 then (if 0 < (c7.2.2.2.2.1.length : Int) then (if ((q0a c7.2.2.2.2.1 0).f0) = 1 then ((Gu.f k c7.1 c7.2.1 c7.2.2.1 c7.2.2.2.1 c7.2.2.2.2.1).bind fun e8 => (some e8)) else (some false)) else (none)) else (some false)) else (some false))) = some r := by first | (rw [hy241]; with_reducible exact H) | (have g2 := (Option.bind_some _ _).symm.trans H; rw [hy241]; with_reducible exact g2) | (have g2 := (Option.bind_some _ _).symm.trans H; with_reducible exact g2) | with_reducible exact H | (rw [hy241]; exact H) | exact H
 have c9 := am hy241
 clear hy241
 replace H := Option.bind_eq_some_iff.mp H
 obtain ⟨⟨b6, b7, b8, b9, b5, e5⟩, i4, H⟩ := H
 try dsimp only at H
 have A1 := am i4
 clear i4
 by_cases c2 : e5 = 0
 ·
  rw [if_pos c2] at H
  obtain ⟨g3, g4⟩ := qt c2
  clear c2
  by_cases c3 : (b5.length : Int) = 1
  ·
   rw [if_pos c3] at H
   obtain ⟨g5, g6⟩ := qt c3
   clear c3
   by_cases c4 : 0 < (b5.length : Int)
   ·
    rw [if_pos c4] at H
    have j3 := decide_eq_true c4
    have j4 : decide (0 < b5.length) = true := decide_eq_true (by omega)
    clear c4
    by_cases c5 : ((q0a b5 0).f0) = 1
    ·
     rw [if_pos c5] at H
     obtain ⟨g7, g8⟩ := qt c5
     clear c5
     replace H := Option.bind_eq_some_iff.mp H
     obtain ⟨e8, i5, H⟩ := H
     try dsimp only at H
     have A6 := am i5
     clear i5
     obtain rfl := Option.some.inj H
     go_enter Try.func16, Try.ntmps16
     go_wp2_with (first | ((with_reducible refine gD 5 ?_); (try (refine q1g (by rfl) ?_; dsimp only)); refine Kd.S_lit k49 _ 49 ?hg (N := 5) ?hd (xs := ([(⟨([] : List Int), 1, 0, 1⟩ : S49)] : List (S49))) (inner := [.slice none 0 0, .int .i64 1, .int .i64 0, .int .i64 1]) (ok := fun _ => True) (okp := fun _ => True) ?hr ?hp (fun _ hk => hk) trivial (Below.refl _ _) (Nat.le_refl _) (by simp) ?_; (case hd => rfl); (case hg => rfl); (case hr => first | (go_simp; done) | (go_simp; rfl)); (case hp => exact (Reps.c4 (show Kd.M k49 _ _ _ (⟨([] : List Int), 1, 0, 1⟩ : S49) [.slice none 0 0, .int .i64 1, .int .i64 0, .int .i64 1] from (k49_mkM _ _ _ (⟨([] : List Int), 1, 0, 1⟩ : S49) (Kd.R_nil _ _ _ _ _))) (Reps.none _ _))); intro e9 w7 f3 hb e7 d0; clear e7 d0; (first | rw [← c9.out] at f3 | (simp only [Int.reduceToNat] at f3; rw [← c9.out] at f3)); have a7 := am (Kd.S_lower f3 (q0m (pB HB.out))); replace HB := bS HB hb; clear hb f3; obtain ⟨j2, j9, k0⟩ := Kd.S_slice a7.out; subst k0) | ((with_reducible refine gC 10 ?_); refine gL 7 Try.func10 #[.string (⟨#[107]⟩ : ByteArray), .agg #[.string (⟨#[97]⟩ : ByteArray), .slice j2 y241.length j9]] ?_; (with_reducible refine (Gt.calls k (⟨#[107]⟩ : ByteArray) (⟨#[97]⟩ : ByteArray) (fun k_ => True) _ _ y241 b6 b7 b8 b9 b5 e5 _ ?side1 A1.out).mono ?_); (case side1 => exact Kd.S_V (a7.out)); rintro e k4 ⟨f1, f2, rfl, e0, e1, hb⟩; refine ⟨_, rfl, ?_⟩; replace a7 := am (Kd.S_below (pS a7.out) hb); have b4 := vL (ok' := fun k_ => True) HB e0 (fun k_ c8 => trivial); have a6 := vL (ok' := fun k_ => True) HB e1 (fun k_ c8 => trivial); replace HB := bS HB hb; (try clear hb); (try clear e0); (try clear e1)) | ((with_reducible refine gD 1 ?_); (try (refine q1g (by rfl) ?_; dsimp only)); refine bz 1 #[.string (⟨#[]⟩ : ByteArray), .string (⟨#[]⟩ : ByteArray), .slice none 0 0, .int .i64 0, .slice none 0 0] 27 HB ?_; clear HB; intro a0 hg k5 hb c6 d7 HB; replace a7 := am (Kd.S_below (pS a7.out) hb); replace b4 := vE b4 hg hb; replace a6 := vE a6 hg hb; clear hb hg; have f5 := y5 c6; obtain ⟨d3, d4, h3⟩ := Kd.V_slice b4.out; subst h3; obtain ⟨i6, d5, h4⟩ := Kd.V_slice a6.out; subst h4; have d1 : 0 ≤ (0 : Int) := (by omega); have d2 : 0 < (b5.length : Int) := od; obtain ⟨b3, e6, a1, a2, a3, a4, a5⟩ := q1i (Kd.V_reads' a6.out).2.2 0 d1 d2; cases e6; have f4 : (0 < b5.length) = True := eq_true (by omega); (try rw [show ((0 : Int)).toNat = 0 from rfl] at a1); (try rw [show 0 * 5 = 0 from rfl] at a1); (try rw [Addr.add_zero'] at a1); (try rw [show ((0 : Int)).toNat = 0 from rfl] at a2); (try rw [show 0 * 5 = 0 from rfl] at a2); (try rw [Addr.add_zero'] at a2); (try rw [show ((0 : Int)).toNat = 0 from rfl] at a3); (try rw [show 0 * 5 = 0 from rfl] at a3); (try rw [Addr.add_zero'] at a3); (try rw [show ((0 : Int)).toNat = 0 from rfl] at a4); (try rw [show 0 * 5 = 0 from rfl] at a4); (try rw [Addr.add_zero'] at a4); (try rw [show ((0 : Int)).toNat = 0 from rfl] at a5); (try rw [show 0 * 5 = 0 from rfl] at a5); (try rw [Addr.add_zero'] at a5); have a8 : b3.block ≠ a0 := vaw a6.out (fun _ c8 => c8.2) (hn := by omega); have a9 : b3.block ≠ a0 := vaw a6.out (fun _ c8 => c8.2) (hn := by omega); have b0 : b3.block ≠ a0 := vaw a6.out (fun _ c8 => c8.2) (hn := by omega); have b1 : b3.block ≠ a0 := vaw a6.out (fun _ c8 => c8.2) (hn := by omega); have b2 : b3.block ≠ a0 := vaw a6.out (fun _ c8 => c8.2) (hn := by omega); replace a1 := (cell_far (p := ⟨a0, 0, none⟩) (nb a8) (.string b6)).trans a1; replace a2 := (cell_far (p := ⟨a0, 0, none⟩) (nb a8) (.string b6)).trans a2; replace a3 := (cell_far (p := ⟨a0, 0, none⟩) (nb a8) (.string b6)).trans a3; replace a4 := (cell_far (p := ⟨a0, 0, none⟩) (nb a8) (.string b6)).trans a4; replace a5 := (cell_far (p := ⟨a0, 0, none⟩) (nb a8) (.string b6)).trans a5; replace a1 := (cell_far (p := ⟨a0, 1, none⟩) (nb a9) (.string b7)).trans a1; replace a2 := (cell_far (p := ⟨a0, 1, none⟩) (nb a9) (.string b7)).trans a2; replace a3 := (cell_far (p := ⟨a0, 1, none⟩) (nb a9) (.string b7)).trans a3; replace a4 := (cell_far (p := ⟨a0, 1, none⟩) (nb a9) (.string b7)).trans a4; replace a5 := (cell_far (p := ⟨a0, 1, none⟩) (nb a9) (.string b7)).trans a5; replace a1 := (cell_far (p := ⟨a0, 2, none⟩) (nb b0) (.slice d3 b8.length d4)).trans a1; replace a2 := (cell_far (p := ⟨a0, 2, none⟩) (nb b0) (.slice d3 b8.length d4)).trans a2; replace a3 := (cell_far (p := ⟨a0, 2, none⟩) (nb b0) (.slice d3 b8.length d4)).trans a3; replace a4 := (cell_far (p := ⟨a0, 2, none⟩) (nb b0) (.slice d3 b8.length d4)).trans a4; replace a5 := (cell_far (p := ⟨a0, 2, none⟩) (nb b0) (.slice d3 b8.length d4)).trans a5; replace a1 := (cell_far (p := ⟨a0, 3, none⟩) (nb b1) (.int .i64 b9)).trans a1; replace a2 := (cell_far (p := ⟨a0, 3, none⟩) (nb b1) (.int .i64 b9)).trans a2; replace a3 := (cell_far (p := ⟨a0, 3, none⟩) (nb b1) (.int .i64 b9)).trans a3; replace a4 := (cell_far (p := ⟨a0, 3, none⟩) (nb b1) (.int .i64 b9)).trans a4; replace a5 := (cell_far (p := ⟨a0, 3, none⟩) (nb b1) (.int .i64 b9)).trans a5; replace a1 := (cell_far (p := ⟨a0, 4, none⟩) (nb b2) (.slice (some b3) b5.length d5)).trans a1; replace a2 := (cell_far (p := ⟨a0, 4, none⟩) (nb b2) (.slice (some b3) b5.length d5)).trans a2; replace a3 := (cell_far (p := ⟨a0, 4, none⟩) (nb b2) (.slice (some b3) b5.length d5)).trans a3; replace a4 := (cell_far (p := ⟨a0, 4, none⟩) (nb b2) (.slice (some b3) b5.length d5)).trans a4; replace a5 := (cell_far (p := ⟨a0, 4, none⟩) (nb b2) (.slice (some b3) b5.length d5)).trans a5; clear a8 a9 b0 b1 b2; replace d1 := eq_true d1; replace d2 := eq_true d2) | (go_at_call 17; (with_reducible refine (Gu.calls k b6 b7 _ _ b8 b9 _ _ b5 e8 _ ?side1 ?side2 ?side3 ?side4 A6.out).mono ?_); (case side1 => exact (Kd.V_reads' (pV b4.out)).2.2); (case side2 => exact (Kd.V_reads' b4.out).2.1); (case side3 => exact (Kd.V_reads' (pV a6.out)).2.2); (case side4 => exact (Kd.V_reads' a6.out).2.1); rintro e k6 ⟨rfl, hb⟩; replace a7 := am (Kd.S_below ((Kd.S_mono (pS (Kd.S_types a7.out c6.out (by decide))) (fun _ h_ => h_.1))) hb); replace b4 := vB b4 hb; replace a6 := vB a6 hb; replace c6 := am (q0c (g := a0) (o := .cells #[.string b6, .string b7, .slice d3 b8.length d4, .int .i64 b9, .slice (some b3) b5.length d5] 27 (0, 0)) (pP c6.out) hb); replace HB := bS HB hb; (try clear hb)))
     go_ret
     exact ⟨er, pB HB.out⟩
    rw [if_neg c5] at H
    obtain ⟨g7, g8⟩ := qf c5
    clear c5
    obtain rfl := Option.some.inj H
    go_enter Try.func16, Try.ntmps16
    go_wp2_with (first | ((with_reducible refine gD 5 ?_); (try (refine q1g (by rfl) ?_; dsimp only)); refine Kd.S_lit k49 _ 49 ?hg (N := 5) ?hd (xs := ([(⟨([] : List Int), 1, 0, 1⟩ : S49)] : List (S49))) (inner := [.slice none 0 0, .int .i64 1, .int .i64 0, .int .i64 1]) (ok := fun _ => True) (okp := fun _ => True) ?hr ?hp (fun _ hk => hk) trivial (Below.refl _ _) (Nat.le_refl _) (by simp) ?_; (case hd => rfl); (case hg => rfl); (case hr => first | (go_simp; done) | (go_simp; rfl)); (case hp => exact (Reps.c4 (show Kd.M k49 _ _ _ (⟨([] : List Int), 1, 0, 1⟩ : S49) [.slice none 0 0, .int .i64 1, .int .i64 0, .int .i64 1] from (k49_mkM _ _ _ (⟨([] : List Int), 1, 0, 1⟩ : S49) (Kd.R_nil _ _ _ _ _))) (Reps.none _ _))); intro e9 k7 e2 hb e7 d0; clear e7 d0; (first | rw [← c9.out] at e2 | (simp only [Int.reduceToNat] at e2; rw [← c9.out] at e2)); have a7 := am (Kd.S_lower e2 (q0m (pB HB.out))); replace HB := bS HB hb; clear hb e2; obtain ⟨f9, g9, h5⟩ := Kd.S_slice a7.out; subst h5) | ((with_reducible refine gC 10 ?_); refine gL 7 Try.func10 #[.string (⟨#[107]⟩ : ByteArray), .agg #[.string (⟨#[97]⟩ : ByteArray), .slice f9 y241.length g9]] ?_; (with_reducible refine (Gt.calls k (⟨#[107]⟩ : ByteArray) (⟨#[97]⟩ : ByteArray) (fun k_ => True) _ _ y241 b6 b7 b8 b9 b5 e5 _ ?side1 A1.out).mono ?_); (case side1 => exact Kd.S_V (a7.out)); rintro e k8 ⟨f1, f2, rfl, e0, e1, hb⟩; refine ⟨_, rfl, ?_⟩; replace a7 := am (Kd.S_below (pS a7.out) hb); have b4 := vL (ok' := fun k_ => True) HB e0 (fun k_ c8 => trivial); have a6 := vL (ok' := fun k_ => True) HB e1 (fun k_ c8 => trivial); replace HB := bS HB hb; (try clear hb); (try clear e0); (try clear e1)) | ((with_reducible refine gD 1 ?_); (try (refine q1g (by rfl) ?_; dsimp only)); refine bz 1 #[.string (⟨#[]⟩ : ByteArray), .string (⟨#[]⟩ : ByteArray), .slice none 0 0, .int .i64 0, .slice none 0 0] 27 HB ?_; clear HB; intro a0 hg k9 hb c6 d7 HB; replace a7 := am (Kd.S_below (pS a7.out) hb); replace b4 := vE b4 hg hb; replace a6 := vE a6 hg hb; clear hb hg; have f6 := y5 c6; obtain ⟨d6, d8, h6⟩ := Kd.V_slice b4.out; subst h6; obtain ⟨i7, d9, h7⟩ := Kd.V_slice a6.out; subst h7; have d1 : 0 ≤ (0 : Int) := (by omega); have d2 : 0 < (b5.length : Int) := od; obtain ⟨b3, e6, a1, a2, a3, a4, a5⟩ := q1i (Kd.V_reads' a6.out).2.2 0 d1 d2; cases e6; have f4 : (0 < b5.length) = True := eq_true (by omega); (try rw [show ((0 : Int)).toNat = 0 from rfl] at a1); (try rw [show 0 * 5 = 0 from rfl] at a1); (try rw [Addr.add_zero'] at a1); (try rw [show ((0 : Int)).toNat = 0 from rfl] at a2); (try rw [show 0 * 5 = 0 from rfl] at a2); (try rw [Addr.add_zero'] at a2); (try rw [show ((0 : Int)).toNat = 0 from rfl] at a3); (try rw [show 0 * 5 = 0 from rfl] at a3); (try rw [Addr.add_zero'] at a3); (try rw [show ((0 : Int)).toNat = 0 from rfl] at a4); (try rw [show 0 * 5 = 0 from rfl] at a4); (try rw [Addr.add_zero'] at a4); (try rw [show ((0 : Int)).toNat = 0 from rfl] at a5); (try rw [show 0 * 5 = 0 from rfl] at a5); (try rw [Addr.add_zero'] at a5); have a8 : b3.block ≠ a0 := vaw a6.out (fun _ c8 => c8.2) (hn := by omega); have a9 : b3.block ≠ a0 := vaw a6.out (fun _ c8 => c8.2) (hn := by omega); have b0 : b3.block ≠ a0 := vaw a6.out (fun _ c8 => c8.2) (hn := by omega); have b1 : b3.block ≠ a0 := vaw a6.out (fun _ c8 => c8.2) (hn := by omega); have b2 : b3.block ≠ a0 := vaw a6.out (fun _ c8 => c8.2) (hn := by omega); replace a1 := (cell_far (p := ⟨a0, 0, none⟩) (nb a8) (.string b6)).trans a1; replace a2 := (cell_far (p := ⟨a0, 0, none⟩) (nb a8) (.string b6)).trans a2; replace a3 := (cell_far (p := ⟨a0, 0, none⟩) (nb a8) (.string b6)).trans a3; replace a4 := (cell_far (p := ⟨a0, 0, none⟩) (nb a8) (.string b6)).trans a4; replace a5 := (cell_far (p := ⟨a0, 0, none⟩) (nb a8) (.string b6)).trans a5; replace a1 := (cell_far (p := ⟨a0, 1, none⟩) (nb a9) (.string b7)).trans a1; replace a2 := (cell_far (p := ⟨a0, 1, none⟩) (nb a9) (.string b7)).trans a2; replace a3 := (cell_far (p := ⟨a0, 1, none⟩) (nb a9) (.string b7)).trans a3; replace a4 := (cell_far (p := ⟨a0, 1, none⟩) (nb a9) (.string b7)).trans a4; replace a5 := (cell_far (p := ⟨a0, 1, none⟩) (nb a9) (.string b7)).trans a5; replace a1 := (cell_far (p := ⟨a0, 2, none⟩) (nb b0) (.slice d6 b8.length d8)).trans a1; replace a2 := (cell_far (p := ⟨a0, 2, none⟩) (nb b0) (.slice d6 b8.length d8)).trans a2; replace a3 := (cell_far (p := ⟨a0, 2, none⟩) (nb b0) (.slice d6 b8.length d8)).trans a3; replace a4 := (cell_far (p := ⟨a0, 2, none⟩) (nb b0) (.slice d6 b8.length d8)).trans a4; replace a5 := (cell_far (p := ⟨a0, 2, none⟩) (nb b0) (.slice d6 b8.length d8)).trans a5; replace a1 := (cell_far (p := ⟨a0, 3, none⟩) (nb b1) (.int .i64 b9)).trans a1; replace a2 := (cell_far (p := ⟨a0, 3, none⟩) (nb b1) (.int .i64 b9)).trans a2; replace a3 := (cell_far (p := ⟨a0, 3, none⟩) (nb b1) (.int .i64 b9)).trans a3; replace a4 := (cell_far (p := ⟨a0, 3, none⟩) (nb b1) (.int .i64 b9)).trans a4; replace a5 := (cell_far (p := ⟨a0, 3, none⟩) (nb b1) (.int .i64 b9)).trans a5; replace a1 := (cell_far (p := ⟨a0, 4, none⟩) (nb b2) (.slice (some b3) b5.length d9)).trans a1; replace a2 := (cell_far (p := ⟨a0, 4, none⟩) (nb b2) (.slice (some b3) b5.length d9)).trans a2; replace a3 := (cell_far (p := ⟨a0, 4, none⟩) (nb b2) (.slice (some b3) b5.length d9)).trans a3; replace a4 := (cell_far (p := ⟨a0, 4, none⟩) (nb b2) (.slice (some b3) b5.length d9)).trans a4; replace a5 := (cell_far (p := ⟨a0, 4, none⟩) (nb b2) (.slice (some b3) b5.length d9)).trans a5; clear a8 a9 b0 b1 b2; replace d1 := eq_true d1; replace d2 := eq_true d2))
    go_ret
    exact ⟨er, pB HB.out⟩
   rw [if_neg c4] at H
   exact absurd H (by simp)
  rw [if_neg c3] at H
  obtain ⟨g5, g6⟩ := qf c3
  obtain rfl := Option.some.inj H
  go_enter Try.func16, Try.ntmps16
  go_wp2_with (first | ((with_reducible refine gD 5 ?_); (try (refine q1g (by rfl) ?_; dsimp only)); refine Kd.S_lit k49 _ 49 ?hg (N := 5) ?hd (xs := ([(⟨([] : List Int), 1, 0, 1⟩ : S49)] : List (S49))) (inner := [.slice none 0 0, .int .i64 1, .int .i64 0, .int .i64 1]) (ok := fun _ => True) (okp := fun _ => True) ?hr ?hp (fun _ hk => hk) trivial (Below.refl _ _) (Nat.le_refl _) (by simp) ?_; (case hd => rfl); (case hg => rfl); (case hr => first | (go_simp; done) | (go_simp; rfl)); (case hp => exact (Reps.c4 (show Kd.M k49 _ _ _ (⟨([] : List Int), 1, 0, 1⟩ : S49) [.slice none 0 0, .int .i64 1, .int .i64 0, .int .i64 1] from (k49_mkM _ _ _ (⟨([] : List Int), 1, 0, 1⟩ : S49) (Kd.R_nil _ _ _ _ _))) (Reps.none _ _))); intro e9 l0 e3 hb e7 d0; clear e7 d0; (first | rw [← c9.out] at e3 | (simp only [Int.reduceToNat] at e3; rw [← c9.out] at e3)); have a7 := am (Kd.S_lower e3 (q0m (pB HB.out))); replace HB := bS HB hb; clear hb e3; obtain ⟨g0, h0, h8⟩ := Kd.S_slice a7.out; subst h8) | ((with_reducible refine gC 10 ?_); refine gL 7 Try.func10 #[.string (⟨#[107]⟩ : ByteArray), .agg #[.string (⟨#[97]⟩ : ByteArray), .slice g0 y241.length h0]] ?_; (with_reducible refine (Gt.calls k (⟨#[107]⟩ : ByteArray) (⟨#[97]⟩ : ByteArray) (fun k_ => True) _ _ y241 b6 b7 b8 b9 b5 e5 _ ?side1 A1.out).mono ?_); (case side1 => exact Kd.S_V (a7.out)); rintro e l1 ⟨f1, f2, rfl, e0, e1, hb⟩; refine ⟨_, rfl, ?_⟩; replace a7 := am (Kd.S_below (pS a7.out) hb); have b4 := vL (ok' := fun k_ => True) HB e0 (fun k_ c8 => trivial); have a6 := vL (ok' := fun k_ => True) HB e1 (fun k_ c8 => trivial); replace HB := bS HB hb; (try clear hb); (try clear e0); (try clear e1)) | ((with_reducible refine gD 1 ?_); (try (refine q1g (by rfl) ?_; dsimp only)); refine bz 1 #[.string (⟨#[]⟩ : ByteArray), .string (⟨#[]⟩ : ByteArray), .slice none 0 0, .int .i64 0, .slice none 0 0] 27 HB ?_; clear HB; intro a0 hg l2 hb c6 d7 HB; replace a7 := am (Kd.S_below (pS a7.out) hb); replace b4 := vE b4 hg hb; replace a6 := vE a6 hg hb; clear hb hg; have f7 := y5 c6; obtain ⟨i8, j5, h9⟩ := Kd.V_slice b4.out; subst h9; obtain ⟨i9, j6, i0⟩ := Kd.V_slice a6.out; subst i0))
  go_ret
  exact ⟨er, pB HB.out⟩
 rw [if_neg c2] at H
 obtain ⟨g3, g4⟩ := qf c2
 obtain rfl := Option.some.inj H
 go_enter Try.func16, Try.ntmps16
 go_wp2_with (first | ((with_reducible refine gD 5 ?_); (try (refine q1g (by rfl) ?_; dsimp only)); refine Kd.S_lit k49 _ 49 ?hg (N := 5) ?hd (xs := ([(⟨([] : List Int), 1, 0, 1⟩ : S49)] : List (S49))) (inner := [.slice none 0 0, .int .i64 1, .int .i64 0, .int .i64 1]) (ok := fun _ => True) (okp := fun _ => True) ?hr ?hp (fun _ hk => hk) trivial (Below.refl _ _) (Nat.le_refl _) (by simp) ?_; (case hd => rfl); (case hg => rfl); (case hr => first | (go_simp; done) | (go_simp; rfl)); (case hp => exact (Reps.c4 (show Kd.M k49 _ _ _ (⟨([] : List Int), 1, 0, 1⟩ : S49) [.slice none 0 0, .int .i64 1, .int .i64 0, .int .i64 1] from (k49_mkM _ _ _ (⟨([] : List Int), 1, 0, 1⟩ : S49) (Kd.R_nil _ _ _ _ _))) (Reps.none _ _))); intro e9 l3 e4 hb e7 d0; clear e7 d0; (first | rw [← c9.out] at e4 | (simp only [Int.reduceToNat] at e4; rw [← c9.out] at e4)); have a7 := am (Kd.S_lower e4 (q0m (pB HB.out))); replace HB := bS HB hb; clear hb e4; obtain ⟨g1, h2, i1⟩ := Kd.S_slice a7.out; subst i1) | ((with_reducible refine gC 10 ?_); refine gL 7 Try.func10 #[.string (⟨#[107]⟩ : ByteArray), .agg #[.string (⟨#[97]⟩ : ByteArray), .slice g1 y241.length h2]] ?_; (with_reducible refine (Gt.calls k (⟨#[107]⟩ : ByteArray) (⟨#[97]⟩ : ByteArray) (fun k_ => True) _ _ y241 b6 b7 b8 b9 b5 e5 _ ?side1 A1.out).mono ?_); (case side1 => exact Kd.S_V (a7.out)); rintro e l4 ⟨f1, f2, rfl, e0, e1, hb⟩; refine ⟨_, rfl, ?_⟩; replace a7 := am (Kd.S_below (pS a7.out) hb); have b4 := vL (ok' := fun k_ => True) HB e0 (fun k_ c8 => trivial); have a6 := vL (ok' := fun k_ => True) HB e1 (fun k_ c8 => trivial); replace HB := bS HB hb; (try clear hb); (try clear e0); (try clear e1)) | ((with_reducible refine gD 1 ?_); (try (refine q1g (by rfl) ?_; dsimp only)); refine bz 1 #[.string (⟨#[]⟩ : ByteArray), .string (⟨#[]⟩ : ByteArray), .slice none 0 0, .int .i64 0, .slice none 0 0] 27 HB ?_; clear HB; intro a0 hg l5 hb c6 d7 HB; replace a7 := am (Kd.S_below (pS a7.out) hb); replace b4 := vE b4 hg hb; replace a6 := vE a6 hg hb; clear hb hg; have f8 := y5 c6; obtain ⟨j0, j7, i2⟩ := Kd.V_slice b4.out; subst i2; obtain ⟨j1, j8, i3⟩ := Kd.V_slice a6.out; subst i3))
 go_ret
 exact ⟨er, pB HB.out⟩
def Fo.l0 : Nat → Int → List (S51) → Int → Int → Int → Int → Int → Int → ByteArray → ByteArray → ByteArray → List (S49) → Int → List (S51) → Option (ByteArray × ByteArray × (List (S49)) × Int × (List (S51)))
 | 0, _, _, _, _, _, _, _, _, _, _, _, _, _, _ => none
 | k + 1, x1, b1, b2, b0, a1, a2, a3, a4, a5, a6, a7, a8, a9, a0 => if b0 < b2 then (if 0 ≤ b0 then (if b0 < (b1.length : Int) then (if b0 = x1 then (if a0.length < 2932031007402 then (Fo.l0 k x1 b1 b2 (wrap64 (b0 + 1)) a1 a2 a3 a4 a5 a6 a7 a8 a9 (a0 ++ [(⟨a1, a2, a3, a4, a5⟩ : S51)])) else (none)) else (if a0.length < 2932031007402 then (Fo.l0 k x1 b1 b2 (wrap64 (b0 + 1)) a1 a2 a3 a4 a5 a6 a7 a8 a9 (a0 ++ [(⟨(q0a b1 b0).f0, (q0a b1 b0).f1, (q0a b1 b0).f2, (q0a b1 b0).f3, (q0a b1 b0).f4⟩ : S51)])) else (none))) else (none)) else (none)) else (some (a6, a7, a8, a9, a0))
def Fo.f (k : Nat) (a2 : ByteArray) (a3 : ByteArray) (b0 : List (S49)) (a4 : Int) (a0 : List (S51)) (a1 : Int) (a5 : Int) (a6 : Int) (a7 : Int) (a8 : Int) (a9 : ByteArray) : Option (ByteArray × ByteArray × (List (S49)) × Int × (List (S51))) := Fo.l0 k a1 a0 (a0.length : Int) 0 a5 a6 a7 a8 a9 a2 a3 b0 a4 ([] : List (S51))
set_option maxHeartbeats 8000000 in
set_option maxRecDepth 100000 in
theorem Fo.calls (k : Nat) (d8 : ByteArray) (d9 : ByteArray) (e1 : Nat → Prop) (c9 : Option Addr) (d0 : Nat) (b6 : List (S49)) (e0 : Int) (k6 : Option Addr) (g2 : Nat) (a3 : List (S51)) (a1 : Int) (b8 : Int) (b9 : Int) (c6 : Int) (c7 : Int) (c8 : ByteArray) (r1 : ByteArray) (r2 : ByteArray) (r3 : List (S49)) (r4 : Int) (r5 : List (S51)) (w : World) (s9 : Kd.V k49 49 w w.heap.size (fun k_ => e1 k_) (.slice c9 b6.length d0) b6) (q7 : Kd.C k51 w k6 a3.length a3) (q6 : a3.length ≤ g2) (h : Fo.f k d8 d9 b6 e0 a3 a1 b8 b9 c6 c7 c8 = some (r1, r2, r3, r4, r5)) :
  Calls Try.prog 48 #[.agg #[.string d8, .string d9, .slice c9 b6.length d0, .int .i64 e0, .slice k6 a3.length g2], .int .i64 a1, .agg #[.int .i64 b8, .int .i64 b9, .int .i64 c6, .int .i64 c7, .string c8]] w fun e w' => ∃ C2 x9 : Value, e = .returned (.agg #[.string r1, .string r2, C2, .int .i64 r4, x9]) ∧ Kd.V k49 49 w' w.heap.size (fun k_ => (e1 k_ ∨ w.heap.size ≤ k_) ∧ some k_ ≠ (x9 : Value).ownBlock) C2 r3 ∧ Kd.R k51 51 w' w.heap.size (fun k_ => (w.heap.size ≤ k_)) x9 r5 ∧ Below w.heap.size w w' := by
 have C6 := Try.underlying27
 have C7 := Try.underlying51
 have C5 := Try.underlying24
 have d5 := am (show Kd.V k49 49 w w.heap.size (fun k_ => (e1 k_ ∨ w.heap.size ≤ k_)) (.slice c9 b6.length d0) b6 from Kd.V_mono s9 (fun k_ hk => .inl hk))
 have q4 := am q7
 have y9 := am q6
 clear q7 q6
 have HB := am (Below.refl w.heap.size w)
 unfold Fo.f at h
 have H := h
 clear h
 have H' := am H
 clear H
 go_enter Try.func48, Try.ntmps48
 go_wp2_with (first | ((with_reducible refine gD 3 ?_); refine bz 3 #[.string d8, .string d9, .slice c9 b6.length d0, .int .i64 e0, .slice k6 a3.length g2] 27 HB ?_; clear HB; intro d6 hg w4 hb a7 y0 HB; replace d5 := vE d5 hg hb; clear hb hg) | ((with_reducible refine gD 5 ?_); refine bz 5 #[.int .i64 b8, .int .i64 b9, .int .i64 c6, .int .i64 c7, .string c8] 51 HB ?_; clear HB; intro d1 hg w5 hb a9 y6 HB; replace d5 := vE d5 hg hb; have j2 := nL hg a7; have j5 := nG hg a7; replace a7 := kB a7 hb; clear hb hg) | ((with_reducible refine gD 6 ?_); refine bz 6 #[.string (⟨#[]⟩ : ByteArray), .string (⟨#[]⟩ : ByteArray), .slice none 0 0, .int .i64 0, .slice none 0 0] 27 HB ?_; clear HB; intro d2 hg w6 hb b0 y7 HB; replace d5 := vE d5 hg hb; have j3 := nL hg a7; have j9 := nG hg a7; replace a7 := kB a7 hb; have j6 := nL hg a9; have k0 := nG hg a9; replace a9 := kB a9 hb; clear hb hg; have C3 := nn j2; have C4 := nn j3; have r6 := y5 a7) | ((with_reducible refine gD 7 ?_); refine bz 7 #[.string (⟨#[]⟩ : ByteArray), .string (⟨#[]⟩ : ByteArray), .slice none 0 0, .int .i64 0, .slice none 0 0] 27 HB ?_; clear HB; intro d7 hg D1 hb a8 y8 HB; replace d5 := vE d5 hg hb; have r7 := nL hg a7; have d3 := nG hg a7; replace a7 := kB a7 hb; have j7 := nL hg a9; have e7 := nG hg a9; replace a9 := kB a9 hb; have r8 := nL hg b0; have d4 := nG hg b0; replace b0 := kB b0 hb; clear hb hg; have z7 := nn d3; have z8 := nn e7; have z9 := nn d4; have k7 := y5 a8; have k8 := y5 a7))
 go_loopg [20] k (fun kq D0 w' => ∃ (a2 : Int) (b1 : List (S51)) (b7 : Value), D0 = .int .i64 a2 ∧ q0e (Fo.l0 kq a1 a3 (a3.length : Int) a2 b8 b9 c6 c7 c8 d8 d9 b6 e0 b1 = some (r1, r2, r3, r4, r5)) ∧ q0e (kq ≤ k) ∧ q0e (Kd.V k49 49 w' w.heap.size (fun k_ => (e1 k_ ∨ w.heap.size ≤ k_) ∧ some k_ ≠ (b7 : Value).ownBlock ∧ k_ ≠ d6 ∧ k_ ≠ d1 ∧ k_ ≠ d2 ∧ k_ ≠ d7) (.slice c9 b6.length d0) b6) ∧ q0e (Kd.V k49 49 w' w.heap.size (fun k_ => (e1 k_ ∨ w.heap.size ≤ k_) ∧ some k_ ≠ (b7 : Value).ownBlock ∧ k_ ≠ d6 ∧ k_ ≠ d1 ∧ k_ ≠ d2 ∧ k_ ≠ d7) (.slice c9 b6.length d0) b6) ∧ q0e (Kd.R k51 51 w' w.heap.size (fun k_ => (w.heap.size ≤ k_) ∧ k_ ≠ d1) b7 b1) ∧ q0e (w'.heap[d6]? = some (.cells #[.string d8, .string d9, (.slice c9 b6.length d0), .int .i64 e0, (.slice k6 a3.length g2)] 27 (0, 0))) ∧ q0e (w'.heap[d1]? = some (.cells #[.int .i64 b8, .int .i64 b9, .int .i64 c6, .int .i64 c7, .string c8] 51 (0, 0))) ∧ q0e (w'.heap[d2]? = some (.cells #[.string (⟨#[]⟩ : ByteArray), .string (⟨#[]⟩ : ByteArray), (.slice none 0 0), .int .i64 0, (.slice none 0 0)] 27 (0, 0))) ∧ q0e (w'.heap[d7]? = some (.cells #[.string d8, .string d9, (.slice c9 b6.length d0), .int .i64 e0, b7] 27 (0, 0))) ∧ q0e (Below w.heap.size w w'))
 case atStart => exact ⟨(0), (([] : List (S51))), (.slice none 0 0), el, H', ⟨Nat.le_refl _⟩, ⟨by exact Kd.V_mono (pV d5.out) (fun _ hk => ⟨hk.1.1.1.1, ⟨(by simp [Value.ownBlock]), ⟨hk.1.1.1.2, ⟨hk.1.1.2, ⟨hk.1.2, hk.2⟩⟩⟩⟩⟩)⟩, ⟨by exact Kd.V_mono (pV d5.out) (fun _ hk => ⟨hk.1.1.1.1, ⟨(by simp [Value.ownBlock]), ⟨hk.1.1.1.2, ⟨hk.1.1.2, ⟨hk.1.2, hk.2⟩⟩⟩⟩⟩)⟩, ⟨by first | exact Kd.R_nil _ _ _ _ _ | exact Kd.N_nil _ _ _ _ _ | exact Kd.V_nil _ _ _ _ _ | exact Kd.Q_nil _ _ _ _ _ | exact Kd.S_nil _ _ _ _ _⟩, ⟨pk a7.out⟩, ⟨pk a9.out⟩, ⟨pk b0.out⟩, ⟨pP a8.out⟩, ⟨pB HB.out⟩⟩
 case round =>
  clear H'
  try clear k7
  try clear k8
  try clear r6
  try clear a7; try clear a9; try clear b0; try clear a8; try clear HB
  obtain ⟨a2, b1, b7, rfl, HA, t0, a6, a5, a4, a7, a9, b0, a8, HB⟩ := hrel
  cases gk with
  | zero => exact absurd HA.out (by simp [Fo.l0])
  | succ k1 =>
   have H := HA.out
   clear HA
   simp only [Fo.l0] at H
   by_cases r9 : a2 < (a3.length : Int)
   ·
    rw [if_pos r9] at H
    have s5 := decide_eq_true r9
    clear r9
    by_cases t1 : 0 ≤ a2
    ·
     rw [if_pos t1] at H
     have z0 := decide_eq_true t1
     clear t1
     by_cases t2 : a2 < (a3.length : Int)
     ·
      rw [if_pos t2] at H
      have z6 := decide_eq_true t2
      clear t2
      by_cases s6 : a2 = a1
      ·
       rw [if_pos s6] at H
       obtain ⟨s7, s8⟩ := qt s6
       clear s6
       by_cases t3 : b1.length < 2932031007402
       ·
        rw [if_pos t3] at H
        have s1 := am t3
        clear t3
        obtain ⟨y152, hy152⟩ : ∃ y_ : List (S51), y_ = (b1 ++ [(⟨b8, b9, c6, c7, c8⟩ : S51)]) := ⟨_, rfl⟩
        replace H : (Fo.l0 k1 a1 a3 (a3.length : Int) (wrap64 (a2 + 1)) b8 b9 c6 c7 c8 d8 d9 b6 e0 y152) = some (r1, r2, r3, r4, r5) := by first | (rw [hy152]; with_reducible exact H) | (have q8 := (Option.bind_some _ _).symm.trans H; rw [hy152]; with_reducible exact q8) | (have q8 := (Option.bind_some _ _).symm.trans H; with_reducible exact q8) | with_reducible exact H | (rw [hy152]; exact H) | exact H
        have s3 := am hy152
        clear hy152
        have H' := am H
        clear H
        have g3 : 0 ≤ (a2 : Int) := od
        have g4 : a2 < (a3.length : Int) := od
        obtain ⟨g5, q9, e2, e3, e4, e5, e6⟩ := q1i q4.out a2 g3 g4
        cases q9
        replace e2 := bX HB e2
        replace e3 := bX HB e3
        replace e4 := bX HB e4
        replace e5 := bX HB e5
        replace e6 := bX HB e6
        replace g3 := eq_true g3
        replace g4 := eq_true g4
        go_upto_region 5 with ((with_reducible refine gD 9 ?_); refine bz 9 #[.int .i64 0, .int .i64 0, .int .i64 0, .int .i64 0, .string (⟨#[]⟩ : ByteArray)] 51 HB ?_; clear HB; intro a0 hg k4 hb b2 s0 HB; replace a6 := vE a6 hg hb; replace a5 := vE a5 hg hb; replace a4 := am (Kd.R_below (Kd.R_elderB (pR a4.out) a0 (Nat.le_of_eq hg.symm)) hb); have j4 := nL hg a7; have e8 := nG hg a7; replace a7 := kB a7 hb; have j8 := nL hg a9; have e9 := nG hg a9; replace a9 := kB a9 hb; have k2 := nL hg b0; have f5 := nG hg b0; replace b0 := kB b0 hb; have k3 := nL hg a8; have f6 := nG hg a8; replace a8 := kB a8 hb; clear hb hg; have A1 := nn e8; have A2 := nn e9; have A3 := nn f5; have A4 := nn f6; obtain ⟨k9, l1, l2, l3, l4, n5, n6, n7, n8, n9⟩ := y5 b2; have A5 := nn j5; have A6 := nn j6; have A7 := nn j7; obtain ⟨l5, l6, l7, l8, l9, o0, o1, o2, o3, o4⟩ := y5 a9; have A8 := nn d3; have A9 := nn d4; obtain ⟨m0, m1, m2, m3, m4, o5, o6, o7, o8, o9⟩ := y5 a8)
        clear k9 l1 l2 l3 l4 n5 n6 n7 n8 n9 l5 l6 l7 l8 l9 o0 o1 o2 o3 o4 m0 m1 m2 m3 m4 o5 o6 o7 o8 o9
        have g1 := am (show (((((k4.setCell ⟨a0, 0, none⟩ (.int .i64 ((q0a a3 a2).f0))).setCell ⟨a0, 1, none⟩ (.int .i64 ((q0a a3 a2).f1))).setCell ⟨a0, 2, none⟩ (.int .i64 ((q0a a3 a2).f2))).setCell ⟨a0, 3, none⟩ (.int .i64 ((q0a a3 a2).f3))).setCell ⟨a0, 4, none⟩ (.string ((q0a a3 a2).f4))).heap[a0]? = some (.cells #[.int .i64 ((q0a a3 a2).f0), .int .i64 ((q0a a3 a2).f1), .int .i64 ((q0a a3 a2).f2), .int .i64 ((q0a a3 a2).f3), .string ((q0a a3 a2).f4)] 51 (0, 0)) from pP b2.out)
        have f7 := am (show (((((k4.setCell ⟨a0, 0, none⟩ (.int .i64 ((q0a a3 a2).f0))).setCell ⟨a0, 1, none⟩ (.int .i64 ((q0a a3 a2).f1))).setCell ⟨a0, 2, none⟩ (.int .i64 ((q0a a3 a2).f2))).setCell ⟨a0, 3, none⟩ (.int .i64 ((q0a a3 a2).f3))).setCell ⟨a0, 4, none⟩ (.string ((q0a a3 a2).f4))).heap[d6]? = some (.cells #[.string d8, .string d9, .slice c9 b6.length d0, .int .i64 e0, .slice (some g5) a3.length g2] 27 (0, 0)) from pk a7.out)
        have f8 := am (show (((((k4.setCell ⟨a0, 0, none⟩ (.int .i64 ((q0a a3 a2).f0))).setCell ⟨a0, 1, none⟩ (.int .i64 ((q0a a3 a2).f1))).setCell ⟨a0, 2, none⟩ (.int .i64 ((q0a a3 a2).f2))).setCell ⟨a0, 3, none⟩ (.int .i64 ((q0a a3 a2).f3))).setCell ⟨a0, 4, none⟩ (.string ((q0a a3 a2).f4))).heap[d1]? = some (.cells #[.int .i64 b8, .int .i64 b9, .int .i64 c6, .int .i64 c7, .string c8] 51 (0, 0)) from pk a9.out)
        have f9 := am (show (((((k4.setCell ⟨a0, 0, none⟩ (.int .i64 ((q0a a3 a2).f0))).setCell ⟨a0, 1, none⟩ (.int .i64 ((q0a a3 a2).f1))).setCell ⟨a0, 2, none⟩ (.int .i64 ((q0a a3 a2).f2))).setCell ⟨a0, 3, none⟩ (.int .i64 ((q0a a3 a2).f3))).setCell ⟨a0, 4, none⟩ (.string ((q0a a3 a2).f4))).heap[d2]? = some (.cells #[.string (⟨#[]⟩ : ByteArray), .string (⟨#[]⟩ : ByteArray), .slice none 0 0, .int .i64 0, .slice none 0 0] 27 (0, 0)) from pk b0.out)
        have g0 := am (show (((((k4.setCell ⟨a0, 0, none⟩ (.int .i64 ((q0a a3 a2).f0))).setCell ⟨a0, 1, none⟩ (.int .i64 ((q0a a3 a2).f1))).setCell ⟨a0, 2, none⟩ (.int .i64 ((q0a a3 a2).f2))).setCell ⟨a0, 3, none⟩ (.int .i64 ((q0a a3 a2).f3))).setCell ⟨a0, 4, none⟩ (.string ((q0a a3 a2).f4))).heap[d7]? = some (.cells #[.string d8, .string d9, .slice c9 b6.length d0, .int .i64 e0, b7] 27 (0, 0)) from pk a8.out)
        have q5 := am (show Below w.heap.size w (((((k4.setCell ⟨a0, 0, none⟩ (.int .i64 ((q0a a3 a2).f0))).setCell ⟨a0, 1, none⟩ (.int .i64 ((q0a a3 a2).f1))).setCell ⟨a0, 2, none⟩ (.int .i64 ((q0a a3 a2).f2))).setCell ⟨a0, 3, none⟩ (.int .i64 ((q0a a3 a2).f3))).setCell ⟨a0, 4, none⟩ (.string ((q0a a3 a2).f4))) from pB HB.out)
        have b3 := am (show Kd.V k49 49 (((((k4.setCell ⟨a0, 0, none⟩ (.int .i64 ((q0a a3 a2).f0))).setCell ⟨a0, 1, none⟩ (.int .i64 ((q0a a3 a2).f1))).setCell ⟨a0, 2, none⟩ (.int .i64 ((q0a a3 a2).f2))).setCell ⟨a0, 3, none⟩ (.int .i64 ((q0a a3 a2).f3))).setCell ⟨a0, 4, none⟩ (.string ((q0a a3 a2).f4))) w.heap.size _ (.slice c9 b6.length d0) b6 from pV a6.out)
        have b4 := am (show Kd.V k49 49 (((((k4.setCell ⟨a0, 0, none⟩ (.int .i64 ((q0a a3 a2).f0))).setCell ⟨a0, 1, none⟩ (.int .i64 ((q0a a3 a2).f1))).setCell ⟨a0, 2, none⟩ (.int .i64 ((q0a a3 a2).f2))).setCell ⟨a0, 3, none⟩ (.int .i64 ((q0a a3 a2).f3))).setCell ⟨a0, 4, none⟩ (.string ((q0a a3 a2).f4))) w.heap.size _ (.slice c9 b6.length d0) b6 from pV a5.out)
        have b5 := am (show Kd.R k51 51 (((((k4.setCell ⟨a0, 0, none⟩ (.int .i64 ((q0a a3 a2).f0))).setCell ⟨a0, 1, none⟩ (.int .i64 ((q0a a3 a2).f1))).setCell ⟨a0, 2, none⟩ (.int .i64 ((q0a a3 a2).f2))).setCell ⟨a0, 3, none⟩ (.int .i64 ((q0a a3 a2).f3))).setCell ⟨a0, 4, none⟩ (.string ((q0a a3 a2).f4))) w.heap.size _ b7 b1 from pR a4.out)
        clear b2 a7 a9 b0 a8 HB a6 a5 a4
        have b2 := g1
        have a7 := f7
        have a9 := f8
        have b0 := f9
        have a8 := g0
        have HB := q5
        have a6 := b3
        have a5 := b4
        have a4 := b5
        clear g1 f7 f8 f9 g0 q5 b3 b4 b5
        generalize (((((k4.setCell ⟨a0, 0, none⟩ (.int .i64 ((q0a a3 a2).f0))).setCell ⟨a0, 1, none⟩ (.int .i64 ((q0a a3 a2).f1))).setCell ⟨a0, 2, none⟩ (.int .i64 ((q0a a3 a2).f2))).setCell ⟨a0, 3, none⟩ (.int .i64 ((q0a a3 a2).f3))).setCell ⟨a0, 4, none⟩ (.string ((q0a a3 a2).f4))) = q1 at *
        obtain ⟨h7, h8, h9, i0, i1⟩ := ce5 b2.out
        obtain ⟨g6, g7, g8, g9, h0⟩ := ce5 a9.out
        obtain ⟨h2, h3, h4, h5, h6⟩ := ce5 a8.out
        obtain ⟨i7, i8, i9, j0, j1⟩ := z5 b2.out
        obtain ⟨i2, i3, i4, i5, i6⟩ := z5 a8.out
        go_upto_region 7 with fail
        clear h7 h8 h9 i0 i1 g6 g7 g8 g9 h0 h2 h3 h4 h5 h6 i7 i8 i9 j0 j1 i2 i3 i4 i5 i6
        have g1 := am (show (((((q1.setCell ⟨a0, 0, none⟩ (.int .i64 b8)).setCell ⟨a0, 1, none⟩ (.int .i64 b9)).setCell ⟨a0, 2, none⟩ (.int .i64 c6)).setCell ⟨a0, 3, none⟩ (.int .i64 c7)).setCell ⟨a0, 4, none⟩ (.string c8)).heap[a0]? = some (.cells #[.int .i64 b8, .int .i64 b9, .int .i64 c6, .int .i64 c7, .string c8] 51 (0, 0)) from pP b2.out)
        have f7 := am (show (((((q1.setCell ⟨a0, 0, none⟩ (.int .i64 b8)).setCell ⟨a0, 1, none⟩ (.int .i64 b9)).setCell ⟨a0, 2, none⟩ (.int .i64 c6)).setCell ⟨a0, 3, none⟩ (.int .i64 c7)).setCell ⟨a0, 4, none⟩ (.string c8)).heap[d6]? = some (.cells #[.string d8, .string d9, .slice c9 b6.length d0, .int .i64 e0, .slice (some g5) a3.length g2] 27 (0, 0)) from pk a7.out)
        have f8 := am (show (((((q1.setCell ⟨a0, 0, none⟩ (.int .i64 b8)).setCell ⟨a0, 1, none⟩ (.int .i64 b9)).setCell ⟨a0, 2, none⟩ (.int .i64 c6)).setCell ⟨a0, 3, none⟩ (.int .i64 c7)).setCell ⟨a0, 4, none⟩ (.string c8)).heap[d1]? = some (.cells #[.int .i64 b8, .int .i64 b9, .int .i64 c6, .int .i64 c7, .string c8] 51 (0, 0)) from pk a9.out)
        have f9 := am (show (((((q1.setCell ⟨a0, 0, none⟩ (.int .i64 b8)).setCell ⟨a0, 1, none⟩ (.int .i64 b9)).setCell ⟨a0, 2, none⟩ (.int .i64 c6)).setCell ⟨a0, 3, none⟩ (.int .i64 c7)).setCell ⟨a0, 4, none⟩ (.string c8)).heap[d2]? = some (.cells #[.string (⟨#[]⟩ : ByteArray), .string (⟨#[]⟩ : ByteArray), .slice none 0 0, .int .i64 0, .slice none 0 0] 27 (0, 0)) from pk b0.out)
        have g0 := am (show (((((q1.setCell ⟨a0, 0, none⟩ (.int .i64 b8)).setCell ⟨a0, 1, none⟩ (.int .i64 b9)).setCell ⟨a0, 2, none⟩ (.int .i64 c6)).setCell ⟨a0, 3, none⟩ (.int .i64 c7)).setCell ⟨a0, 4, none⟩ (.string c8)).heap[d7]? = some (.cells #[.string d8, .string d9, .slice c9 b6.length d0, .int .i64 e0, b7] 27 (0, 0)) from pk a8.out)
        have q5 := am (show Below w.heap.size w (((((q1.setCell ⟨a0, 0, none⟩ (.int .i64 b8)).setCell ⟨a0, 1, none⟩ (.int .i64 b9)).setCell ⟨a0, 2, none⟩ (.int .i64 c6)).setCell ⟨a0, 3, none⟩ (.int .i64 c7)).setCell ⟨a0, 4, none⟩ (.string c8)) from pB HB.out)
        have b3 := am (show Kd.V k49 49 (((((q1.setCell ⟨a0, 0, none⟩ (.int .i64 b8)).setCell ⟨a0, 1, none⟩ (.int .i64 b9)).setCell ⟨a0, 2, none⟩ (.int .i64 c6)).setCell ⟨a0, 3, none⟩ (.int .i64 c7)).setCell ⟨a0, 4, none⟩ (.string c8)) w.heap.size _ (.slice c9 b6.length d0) b6 from pV a6.out)
        have b4 := am (show Kd.V k49 49 (((((q1.setCell ⟨a0, 0, none⟩ (.int .i64 b8)).setCell ⟨a0, 1, none⟩ (.int .i64 b9)).setCell ⟨a0, 2, none⟩ (.int .i64 c6)).setCell ⟨a0, 3, none⟩ (.int .i64 c7)).setCell ⟨a0, 4, none⟩ (.string c8)) w.heap.size _ (.slice c9 b6.length d0) b6 from pV a5.out)
        have b5 := am (show Kd.R k51 51 (((((q1.setCell ⟨a0, 0, none⟩ (.int .i64 b8)).setCell ⟨a0, 1, none⟩ (.int .i64 b9)).setCell ⟨a0, 2, none⟩ (.int .i64 c6)).setCell ⟨a0, 3, none⟩ (.int .i64 c7)).setCell ⟨a0, 4, none⟩ (.string c8)) w.heap.size _ b7 b1 from pR a4.out)
        clear b2 a7 a9 b0 a8 HB a6 a5 a4
        have b2 := g1
        have a7 := f7
        have a9 := f8
        have b0 := f9
        have a8 := g0
        have HB := q5
        have a6 := b3
        have a5 := b4
        have a4 := b5
        clear g1 f7 f8 f9 g0 q5 b3 b4 b5
        generalize (((((q1.setCell ⟨a0, 0, none⟩ (.int .i64 b8)).setCell ⟨a0, 1, none⟩ (.int .i64 b9)).setCell ⟨a0, 2, none⟩ (.int .i64 c6)).setCell ⟨a0, 3, none⟩ (.int .i64 c7)).setCell ⟨a0, 4, none⟩ (.string c8)) = q2 at *
        obtain ⟨u5, u6, u7, u8, u9⟩ := ce5 b2.out
        obtain ⟨t5, t6, t7, t8, t9⟩ := ce5 a9.out
        obtain ⟨u0, u1, u2, u3, u4⟩ := ce5 a8.out
        obtain ⟨v5, v6, v7, v8, v9⟩ := z5 b2.out
        obtain ⟨v0, v1, v2, v3, v4⟩ := z5 a8.out
        go_wp2_with ((with_reducible refine q2q (b := .append) (xs := #[.tmp 30, .tmp 32]) rfl ?_); at_builtin; refine Kd.R_append k51 (w0 := w) w.heap.size rfl (.tmp 30) (.tmp 32) 25 51 (.agg #[(.int .i64 0), (.int .i64 0), (.int .i64 0), (.int .i64 0), (.string ⟨#[]⟩)]) 48 rfl Try.underlying25 info51 rfl (by decide) (by omega) b7 b1 (⟨b8, b9, c6, c7, c8⟩ : S51) [.int .i64 b8, .int .i64 b9, .int .i64 c6, .int .i64 c7, .string c8] (fun k_ => (w.heap.size ≤ k_) ∧ k_ ≠ d1 ∧ k_ ≠ a0) (fun _ => False) rfl (by first | (go_simp; done) | (go_simp; rfl)) ?aP (fun _ hk => hk.elim) ?aF ?aO ?aB ?aS ?aL ?_; (case aP => exact k51_mkM _ _ _ (⟨b8, b9, c6, c7, c8⟩ : S51)); (case aB => exact (pB HB.out)); (case aF => exact (fun k_ hk => ⟨(Nat.le_trans (q0m (pB HB.out)) hk), Kd.freshB (pk a9.out) k_ hk, Kd.freshB (g := a0) (o := .cells #[.int .i64 b8, .int .i64 b9, .int .i64 c6, .int .i64 c7, .string c8] 51 (0, 0)) (pP b2.out) k_ hk⟩)); (case aO => exact (by exact Kd.R_mono (pR a4.out) (fun _ hk => ⟨hk.1.1, ⟨hk.1.2, hk.2⟩⟩))); (case aS => exact (q0m (pB HB.out))); (case aL => have := s1.out; omega); intro C8 D2 ho hb hg r0; rw [← s3.out] at ho; replace a6 := am (Kd.V_afterv (ok := (fun k_ => (e1 k_ ∨ w.heap.size ≤ k_) ∧ k_ ≠ d6 ∧ k_ ≠ d1 ∧ k_ ≠ d2 ∧ k_ ≠ d7 ∧ k_ ≠ a0)) (by exact Kd.V_mono (pV a6.out) (fun _ hk => ⟨⟨hk.1.1, ⟨hk.1.2.2.1, ⟨hk.1.2.2.2.1, ⟨hk.1.2.2.2.2.1, ⟨hk.1.2.2.2.2.2, hk.2⟩⟩⟩⟩⟩, hk.1.2.1⟩)) hg r0); replace a5 := am (Kd.V_afterv (ok := (fun k_ => (e1 k_ ∨ w.heap.size ≤ k_) ∧ k_ ≠ d6 ∧ k_ ≠ d1 ∧ k_ ≠ d2 ∧ k_ ≠ d7 ∧ k_ ≠ a0)) (by exact Kd.V_mono (pV a5.out) (fun _ hk => ⟨⟨hk.1.1, ⟨hk.1.2.2.1, ⟨hk.1.2.2.2.1, ⟨hk.1.2.2.2.2.1, ⟨hk.1.2.2.2.2.2, hk.2⟩⟩⟩⟩⟩, hk.1.2.1⟩)) hg r0); replace a7 := am (q1n (pk a7.out) hg (Kd.R_ne a4.out a7.out (by decide))); replace a9 := am (q1n (pk a9.out) hg (Kd.R_away a4.out (fun _ hk => hk.1.2))); replace b0 := am (q1n (pk b0.out) hg (Kd.R_ne a4.out b0.out (by decide))); replace a8 := am (q1n (pk a8.out) hg (Kd.R_ne a4.out a8.out (by decide))); replace b2 := am (q1n (g := a0) (o := .cells #[.int .i64 b8, .int .i64 b9, .int .i64 c6, .int .i64 c7, .string c8] 51 (0, 0)) (pP b2.out) hg (Kd.R_away a4.out (fun _ hk => hk.2))); replace HB := am (hb); have q0 := am (ho); clear a4 ho hb hg r0; obtain ⟨w9, x3, x6⟩ := Kd.R_slice q0.out; subst x6; have w2 := y5 a8)
        go_roundg k1
        case measure => have := t0.out; omega
        case rel => exact ⟨(wrap64 (a2 + 1)), (y152), (.slice w9 y152.length x3), el, H', ⟨by have := t0.out; omega⟩, (vM a6), (vM a5), ⟨by exact Kd.R_mono (pR (Kd.R_types q0.out a8.out (by decide))) (fun _ hk => ⟨hk.1.1, hk.1.2.1⟩)⟩, ⟨pk a7.out⟩, ⟨pk a9.out⟩, ⟨pk b0.out⟩, ⟨pP a8.out⟩, ⟨pB HB.out⟩⟩
       rw [if_neg t3] at H
       exact absurd H (by simp)
      rw [if_neg s6] at H
      obtain ⟨s7, s8⟩ := qf s6
      by_cases t4 : b1.length < 2932031007402
      ·
       rw [if_pos t4] at H
       have s2 := am t4
       clear t4
       obtain ⟨y155, hy155⟩ : ∃ y_ : List (S51), y_ = (b1 ++ [(⟨(q0a a3 a2).f0, (q0a a3 a2).f1, (q0a a3 a2).f2, (q0a a3 a2).f3, (q0a a3 a2).f4⟩ : S51)]) := ⟨_, rfl⟩
       replace H : (Fo.l0 k1 a1 a3 (a3.length : Int) (wrap64 (a2 + 1)) b8 b9 c6 c7 c8 d8 d9 b6 e0 y155) = some (r1, r2, r3, r4, r5) := by first | (rw [hy155]; with_reducible exact H) | (have q8 := (Option.bind_some _ _).symm.trans H; rw [hy155]; with_reducible exact q8) | (have q8 := (Option.bind_some _ _).symm.trans H; with_reducible exact q8) | with_reducible exact H | (rw [hy155]; exact H) | exact H
       have s4 := am hy155
       clear hy155
       have H' := am H
       clear H
       have g3 : 0 ≤ (a2 : Int) := od
       have g4 : a2 < (a3.length : Int) := od
       obtain ⟨g5, q9, e2, e3, e4, e5, e6⟩ := q1i q4.out a2 g3 g4
       cases q9
       replace e2 := bX HB e2
       replace e3 := bX HB e3
       replace e4 := bX HB e4
       replace e5 := bX HB e5
       replace e6 := bX HB e6
       replace g3 := eq_true g3
       replace g4 := eq_true g4
       go_upto_region 5 with ((with_reducible refine gD 9 ?_); refine bz 9 #[.int .i64 0, .int .i64 0, .int .i64 0, .int .i64 0, .string (⟨#[]⟩ : ByteArray)] 51 HB ?_; clear HB; intro a0 hg k5 hb b2 s0 HB; replace a6 := vE a6 hg hb; replace a5 := vE a5 hg hb; replace a4 := am (Kd.R_below (Kd.R_elderB (pR a4.out) a0 (Nat.le_of_eq hg.symm)) hb); have j4 := nL hg a7; have e8 := nG hg a7; replace a7 := kB a7 hb; have j8 := nL hg a9; have e9 := nG hg a9; replace a9 := kB a9 hb; have k2 := nL hg b0; have f5 := nG hg b0; replace b0 := kB b0 hb; have k3 := nL hg a8; have f6 := nG hg a8; replace a8 := kB a8 hb; clear hb hg; have B0 := nn e8; have B1 := nn e9; have B2 := nn f5; have B3 := nn f6; obtain ⟨m5, m6, m7, m8, m9, p0, p1, p2, p3, p4⟩ := y5 b2; have B4 := nn d3; have B5 := nn e7; have B6 := nn d4; obtain ⟨n0, n1, n2, n3, n4, p5, p6, p7, p8, p9⟩ := y5 a8)
       clear m5 m6 m7 m8 m9 p0 p1 p2 p3 p4 n0 n1 n2 n3 n4 p5 p6 p7 p8 p9
       have g1 := am (show (((((k5.setCell ⟨a0, 0, none⟩ (.int .i64 ((q0a a3 a2).f0))).setCell ⟨a0, 1, none⟩ (.int .i64 ((q0a a3 a2).f1))).setCell ⟨a0, 2, none⟩ (.int .i64 ((q0a a3 a2).f2))).setCell ⟨a0, 3, none⟩ (.int .i64 ((q0a a3 a2).f3))).setCell ⟨a0, 4, none⟩ (.string ((q0a a3 a2).f4))).heap[a0]? = some (.cells #[.int .i64 ((q0a a3 a2).f0), .int .i64 ((q0a a3 a2).f1), .int .i64 ((q0a a3 a2).f2), .int .i64 ((q0a a3 a2).f3), .string ((q0a a3 a2).f4)] 51 (0, 0)) from pP b2.out)
       have f7 := am (show (((((k5.setCell ⟨a0, 0, none⟩ (.int .i64 ((q0a a3 a2).f0))).setCell ⟨a0, 1, none⟩ (.int .i64 ((q0a a3 a2).f1))).setCell ⟨a0, 2, none⟩ (.int .i64 ((q0a a3 a2).f2))).setCell ⟨a0, 3, none⟩ (.int .i64 ((q0a a3 a2).f3))).setCell ⟨a0, 4, none⟩ (.string ((q0a a3 a2).f4))).heap[d6]? = some (.cells #[.string d8, .string d9, .slice c9 b6.length d0, .int .i64 e0, .slice (some g5) a3.length g2] 27 (0, 0)) from pk a7.out)
       have f8 := am (show (((((k5.setCell ⟨a0, 0, none⟩ (.int .i64 ((q0a a3 a2).f0))).setCell ⟨a0, 1, none⟩ (.int .i64 ((q0a a3 a2).f1))).setCell ⟨a0, 2, none⟩ (.int .i64 ((q0a a3 a2).f2))).setCell ⟨a0, 3, none⟩ (.int .i64 ((q0a a3 a2).f3))).setCell ⟨a0, 4, none⟩ (.string ((q0a a3 a2).f4))).heap[d1]? = some (.cells #[.int .i64 b8, .int .i64 b9, .int .i64 c6, .int .i64 c7, .string c8] 51 (0, 0)) from pk a9.out)
       have f9 := am (show (((((k5.setCell ⟨a0, 0, none⟩ (.int .i64 ((q0a a3 a2).f0))).setCell ⟨a0, 1, none⟩ (.int .i64 ((q0a a3 a2).f1))).setCell ⟨a0, 2, none⟩ (.int .i64 ((q0a a3 a2).f2))).setCell ⟨a0, 3, none⟩ (.int .i64 ((q0a a3 a2).f3))).setCell ⟨a0, 4, none⟩ (.string ((q0a a3 a2).f4))).heap[d2]? = some (.cells #[.string (⟨#[]⟩ : ByteArray), .string (⟨#[]⟩ : ByteArray), .slice none 0 0, .int .i64 0, .slice none 0 0] 27 (0, 0)) from pk b0.out)
       have g0 := am (show (((((k5.setCell ⟨a0, 0, none⟩ (.int .i64 ((q0a a3 a2).f0))).setCell ⟨a0, 1, none⟩ (.int .i64 ((q0a a3 a2).f1))).setCell ⟨a0, 2, none⟩ (.int .i64 ((q0a a3 a2).f2))).setCell ⟨a0, 3, none⟩ (.int .i64 ((q0a a3 a2).f3))).setCell ⟨a0, 4, none⟩ (.string ((q0a a3 a2).f4))).heap[d7]? = some (.cells #[.string d8, .string d9, .slice c9 b6.length d0, .int .i64 e0, b7] 27 (0, 0)) from pk a8.out)
       have q5 := am (show Below w.heap.size w (((((k5.setCell ⟨a0, 0, none⟩ (.int .i64 ((q0a a3 a2).f0))).setCell ⟨a0, 1, none⟩ (.int .i64 ((q0a a3 a2).f1))).setCell ⟨a0, 2, none⟩ (.int .i64 ((q0a a3 a2).f2))).setCell ⟨a0, 3, none⟩ (.int .i64 ((q0a a3 a2).f3))).setCell ⟨a0, 4, none⟩ (.string ((q0a a3 a2).f4))) from pB HB.out)
       have b3 := am (show Kd.V k49 49 (((((k5.setCell ⟨a0, 0, none⟩ (.int .i64 ((q0a a3 a2).f0))).setCell ⟨a0, 1, none⟩ (.int .i64 ((q0a a3 a2).f1))).setCell ⟨a0, 2, none⟩ (.int .i64 ((q0a a3 a2).f2))).setCell ⟨a0, 3, none⟩ (.int .i64 ((q0a a3 a2).f3))).setCell ⟨a0, 4, none⟩ (.string ((q0a a3 a2).f4))) w.heap.size _ (.slice c9 b6.length d0) b6 from pV a6.out)
       have b4 := am (show Kd.V k49 49 (((((k5.setCell ⟨a0, 0, none⟩ (.int .i64 ((q0a a3 a2).f0))).setCell ⟨a0, 1, none⟩ (.int .i64 ((q0a a3 a2).f1))).setCell ⟨a0, 2, none⟩ (.int .i64 ((q0a a3 a2).f2))).setCell ⟨a0, 3, none⟩ (.int .i64 ((q0a a3 a2).f3))).setCell ⟨a0, 4, none⟩ (.string ((q0a a3 a2).f4))) w.heap.size _ (.slice c9 b6.length d0) b6 from pV a5.out)
       have b5 := am (show Kd.R k51 51 (((((k5.setCell ⟨a0, 0, none⟩ (.int .i64 ((q0a a3 a2).f0))).setCell ⟨a0, 1, none⟩ (.int .i64 ((q0a a3 a2).f1))).setCell ⟨a0, 2, none⟩ (.int .i64 ((q0a a3 a2).f2))).setCell ⟨a0, 3, none⟩ (.int .i64 ((q0a a3 a2).f3))).setCell ⟨a0, 4, none⟩ (.string ((q0a a3 a2).f4))) w.heap.size _ b7 b1 from pR a4.out)
       clear b2 a7 a9 b0 a8 HB a6 a5 a4
       have b2 := g1
       have a7 := f7
       have a9 := f8
       have b0 := f9
       have a8 := g0
       have HB := q5
       have a6 := b3
       have a5 := b4
       have a4 := b5
       clear g1 f7 f8 f9 g0 q5 b3 b4 b5
       generalize (((((k5.setCell ⟨a0, 0, none⟩ (.int .i64 ((q0a a3 a2).f0))).setCell ⟨a0, 1, none⟩ (.int .i64 ((q0a a3 a2).f1))).setCell ⟨a0, 2, none⟩ (.int .i64 ((q0a a3 a2).f2))).setCell ⟨a0, 3, none⟩ (.int .i64 ((q0a a3 a2).f3))).setCell ⟨a0, 4, none⟩ (.string ((q0a a3 a2).f4))) = q1 at *
       obtain ⟨h7, h8, h9, i0, i1⟩ := ce5 b2.out
       obtain ⟨g6, g7, g8, g9, h0⟩ := ce5 a9.out
       obtain ⟨h2, h3, h4, h5, h6⟩ := ce5 a8.out
       obtain ⟨i7, i8, i9, j0, j1⟩ := z5 b2.out
       obtain ⟨i2, i3, i4, i5, i6⟩ := z5 a8.out
       go_wp2_with ((with_reducible refine q2q (b := .append) (xs := #[.tmp 30, .tmp 32]) rfl ?_); at_builtin; refine Kd.R_append k51 (w0 := w) w.heap.size rfl (.tmp 30) (.tmp 32) 25 51 (.agg #[(.int .i64 0), (.int .i64 0), (.int .i64 0), (.int .i64 0), (.string ⟨#[]⟩)]) 48 rfl Try.underlying25 info51 rfl (by decide) (by omega) b7 b1 (⟨(q0a a3 a2).f0, (q0a a3 a2).f1, (q0a a3 a2).f2, (q0a a3 a2).f3, (q0a a3 a2).f4⟩ : S51) [.int .i64 ((q0a a3 a2).f0), .int .i64 ((q0a a3 a2).f1), .int .i64 ((q0a a3 a2).f2), .int .i64 ((q0a a3 a2).f3), .string ((q0a a3 a2).f4)] (fun k_ => (w.heap.size ≤ k_) ∧ k_ ≠ d1 ∧ k_ ≠ a0) (fun _ => False) rfl (by first | (go_simp; done) | (go_simp; rfl)) ?aP (fun _ hk => hk.elim) ?aF ?aO ?aB ?aS ?aL ?_; (case aP => exact k51_mkM _ _ _ (⟨(q0a a3 a2).f0, (q0a a3 a2).f1, (q0a a3 a2).f2, (q0a a3 a2).f3, (q0a a3 a2).f4⟩ : S51)); (case aB => exact (pB HB.out)); (case aF => exact (fun k_ hk => ⟨(Nat.le_trans (q0m (pB HB.out)) hk), Kd.freshB (pk a9.out) k_ hk, Kd.freshB (g := a0) (o := .cells #[.int .i64 ((q0a a3 a2).f0), .int .i64 ((q0a a3 a2).f1), .int .i64 ((q0a a3 a2).f2), .int .i64 ((q0a a3 a2).f3), .string ((q0a a3 a2).f4)] 51 (0, 0)) (pP b2.out) k_ hk⟩)); (case aO => exact (by exact Kd.R_mono (pR a4.out) (fun _ hk => ⟨hk.1.1, ⟨hk.1.2, hk.2⟩⟩))); (case aS => exact (q0m (pB HB.out))); (case aL => have := s2.out; omega); intro C9 D3 ho hb hg r0; rw [← s4.out] at ho; replace a6 := am (Kd.V_afterv (ok := (fun k_ => (e1 k_ ∨ w.heap.size ≤ k_) ∧ k_ ≠ d6 ∧ k_ ≠ d1 ∧ k_ ≠ d2 ∧ k_ ≠ d7 ∧ k_ ≠ a0)) (by exact Kd.V_mono (pV a6.out) (fun _ hk => ⟨⟨hk.1.1, ⟨hk.1.2.2.1, ⟨hk.1.2.2.2.1, ⟨hk.1.2.2.2.2.1, ⟨hk.1.2.2.2.2.2, hk.2⟩⟩⟩⟩⟩, hk.1.2.1⟩)) hg r0); replace a5 := am (Kd.V_afterv (ok := (fun k_ => (e1 k_ ∨ w.heap.size ≤ k_) ∧ k_ ≠ d6 ∧ k_ ≠ d1 ∧ k_ ≠ d2 ∧ k_ ≠ d7 ∧ k_ ≠ a0)) (by exact Kd.V_mono (pV a5.out) (fun _ hk => ⟨⟨hk.1.1, ⟨hk.1.2.2.1, ⟨hk.1.2.2.2.1, ⟨hk.1.2.2.2.2.1, ⟨hk.1.2.2.2.2.2, hk.2⟩⟩⟩⟩⟩, hk.1.2.1⟩)) hg r0); replace a7 := am (q1n (pk a7.out) hg (Kd.R_ne a4.out a7.out (by decide))); replace a9 := am (q1n (pk a9.out) hg (Kd.R_away a4.out (fun _ hk => hk.1.2))); replace b0 := am (q1n (pk b0.out) hg (Kd.R_ne a4.out b0.out (by decide))); replace a8 := am (q1n (pk a8.out) hg (Kd.R_ne a4.out a8.out (by decide))); replace b2 := am (q1n (g := a0) (o := .cells #[.int .i64 ((q0a a3 a2).f0), .int .i64 ((q0a a3 a2).f1), .int .i64 ((q0a a3 a2).f2), .int .i64 ((q0a a3 a2).f3), .string ((q0a a3 a2).f4)] 51 (0, 0)) (pP b2.out) hg (Kd.R_away a4.out (fun _ hk => hk.2))); replace HB := am (hb); have q3 := am (ho); clear a4 ho hb hg r0; obtain ⟨x0, x4, x7⟩ := Kd.R_slice q3.out; subst x7; have w3 := y5 a8)
       go_roundg k1
       case measure => have := t0.out; omega
       case rel => exact ⟨(wrap64 (a2 + 1)), (y155), (.slice x0 y155.length x4), el, H', ⟨by have := t0.out; omega⟩, (vM a6), (vM a5), ⟨by exact Kd.R_mono (pR (Kd.R_types q3.out a8.out (by decide))) (fun _ hk => ⟨hk.1.1, hk.1.2.1⟩)⟩, ⟨pk a7.out⟩, ⟨pk a9.out⟩, ⟨pk b0.out⟩, ⟨pP a8.out⟩, ⟨pB HB.out⟩⟩
      rw [if_neg t4] at H
      exact absurd H (by simp)
     rw [if_neg t2] at H
     exact absurd H (by simp)
    rw [if_neg t1] at H
    exact absurd H (by simp)
   rw [if_neg r9] at H
   have s5 := decide_eq_false r9
   clear r9
   simp only [Option.some.injEq, Prod.mk.injEq] at H
   obtain ⟨rfl, rfl, rfl, rfl, rfl⟩ := H
   have B7 := nn d3
   have B8 := nn e7
   have B9 := nn d4
   have w7 := y5 a8
   have C0 := nn j9
   have C1 := nn k0
   have w8 := y5 b0
   obtain ⟨x2, x5, x8⟩ := Kd.R_slice a4.out
   subst x8
   go_wp2
   refine bodyPost_ret (results_cell_row rfl _ _ d2 27 #[.string d8, .string d9, .slice c9 b6.length d0, .int .i64 e0, .slice x2 b1.length x5] (0, 0) _ rfl (pP b0.out) Try.underlying27 rfl (by kernel_rfl)) rfl ?_
   exact ⟨_, _, by first | rfl | (simp [q1f, q1e] <;> rfl) | (simp [*, q1f, q1e] <;> rfl), by exact Kd.V_mono (pV a5.out) (fun _ hk => ⟨hk.1, hk.2.1⟩), by exact Kd.R_mono (pR (Kd.R_types a4.out b0.out (by decide))) (fun _ hk => hk.1.1), pB HB.out⟩
def Gd.f (a0 : Int) (a1 : Int) (a3 : Int) (a4 : Int) (a2 : ByteArray) : Option (Int × Int × Int × Int × ByteArray) := if a0 = 0 then (some (5, a1, 0, 0, a2)) else (if a0 = 1 then (some (5, a1, 0, 0, a2)) else (if a0 = 2 then (some (5, a1, 0, 0, a2)) else (some (a0, a1, a3, a4, a2))))
set_option maxHeartbeats 8000000 in
set_option maxRecDepth 100000 in
theorem Gd.calls (a4 : Int) (a5 : Int) (a7 : Int) (a8 : Int) (a6 : ByteArray) (r1 : Int) (r2 : Int) (r3 : Int) (r4 : Int) (r5 : ByteArray) (w : World) (h : Gd.f a4 a5 a7 a8 a6 = some (r1, r2, r3, r4, r5)) :
  Calls Try.prog 67 #[.agg #[.int .i64 a4, .int .i64 a5, .int .i64 a7, .int .i64 a8, .string a6]] w fun e w' => e = .returned (.agg #[.int .i64 r1, .int .i64 r2, .int .i64 r3, .int .i64 r4, .string r5]) ∧ Below w.heap.size w w' := by
 have d8 := Try.underlying51
 have HB := am (Below.refl w.heap.size w)
 unfold Gd.f at h
 have H := h
 clear h
 by_cases c2 : a4 = 0
 ·
  rw [if_pos c2] at H
  obtain ⟨c7, c9⟩ := qt c2
  clear c2
  simp only [Option.some.injEq, Prod.mk.injEq] at H
  obtain ⟨rfl, rfl, rfl, rfl, rfl⟩ := H
  go_enter Try.func67, Try.ntmps67
  go_wp2_with (first | ((with_reducible refine gD 1 ?_); refine bz 1 #[.int .i64 a4, .int .i64 a5, .int .i64 a7, .int .i64 a8, .string a6] 51 HB ?_; clear HB; intro b1 hg w3 hb a0 a9 HB; clear hb hg) | ((with_reducible refine gD 2 ?_); refine bz 2 #[.int .i64 0, .int .i64 0, .int .i64 0, .int .i64 0, .string (⟨#[]⟩ : ByteArray)] 51 HB ?_; clear HB; intro a3 hg w4 hb a2 b0 HB; have a1 := nL hg a0; replace a0 := kB a0 hb; clear hb hg; have d7 := nn a1; have d2 := y5 a0; have d3 := y5 a2))
  refine bodyPost_ret (results_cell_row rfl _ _ a3 51 #[.int .i64 5, .int .i64 a5, .int .i64 0, .int .i64 0, .string a6] (0, 0) _ rfl (pP a2.out) Try.underlying51 rfl (by kernel_rfl)) rfl ?_
  exact ⟨er, pB HB.out⟩
 rw [if_neg c2] at H
 obtain ⟨c7, c9⟩ := qf c2
 by_cases c8 : a4 = 1
 ·
  rw [if_pos c8] at H
  obtain ⟨d0, d1⟩ := qt c8
  clear c8
  simp only [Option.some.injEq, Prod.mk.injEq] at H
  obtain ⟨rfl, rfl, rfl, rfl, rfl⟩ := H
  go_enter Try.func67, Try.ntmps67
  go_wp2_with (first | ((with_reducible refine gD 1 ?_); refine bz 1 #[.int .i64 a4, .int .i64 a5, .int .i64 a7, .int .i64 a8, .string a6] 51 HB ?_; clear HB; intro b1 hg w9 hb a0 a9 HB; clear hb hg) | ((with_reducible refine gD 2 ?_); refine bz 2 #[.int .i64 0, .int .i64 0, .int .i64 0, .int .i64 0, .string (⟨#[]⟩ : ByteArray)] 51 HB ?_; clear HB; intro a3 hg d9 hb a2 b0 HB; have a1 := nL hg a0; replace a0 := kB a0 hb; clear hb hg; have d4 := nn a1; have b5 := y5 a0; have b6 := y5 a2))
  refine bodyPost_ret (results_cell_row rfl _ _ a3 51 #[.int .i64 5, .int .i64 a5, .int .i64 0, .int .i64 0, .string a6] (0, 0) _ rfl (pP a2.out) Try.underlying51 rfl (by kernel_rfl)) rfl ?_
  exact ⟨er, pB HB.out⟩
 rw [if_neg c8] at H
 obtain ⟨d0, d1⟩ := qf c8
 by_cases b2 : a4 = 2
 ·
  rw [if_pos b2] at H
  obtain ⟨b3, b4⟩ := qt b2
  clear b2
  simp only [Option.some.injEq, Prod.mk.injEq] at H
  obtain ⟨rfl, rfl, rfl, rfl, rfl⟩ := H
  go_enter Try.func67, Try.ntmps67
  go_wp2_with (first | ((with_reducible refine gD 1 ?_); refine bz 1 #[.int .i64 a4, .int .i64 a5, .int .i64 a7, .int .i64 a8, .string a6] 51 HB ?_; clear HB; intro b1 hg e0 hb a0 a9 HB; clear hb hg) | ((with_reducible refine gD 2 ?_); refine bz 2 #[.int .i64 0, .int .i64 0, .int .i64 0, .int .i64 0, .string (⟨#[]⟩ : ByteArray)] 51 HB ?_; clear HB; intro a3 hg e1 hb a2 b0 HB; have a1 := nL hg a0; replace a0 := kB a0 hb; clear hb hg; have d5 := nn a1; have b7 := y5 a0; have b8 := y5 a2))
  refine bodyPost_ret (results_cell_row rfl _ _ a3 51 #[.int .i64 5, .int .i64 a5, .int .i64 0, .int .i64 0, .string a6] (0, 0) _ rfl (pP a2.out) Try.underlying51 rfl (by kernel_rfl)) rfl ?_
  exact ⟨er, pB HB.out⟩
 rw [if_neg b2] at H
 obtain ⟨b3, b4⟩ := qf b2
 simp only [Option.some.injEq, Prod.mk.injEq] at H
 obtain ⟨rfl, rfl, rfl, rfl, rfl⟩ := H
 go_enter Try.func67, Try.ntmps67
 go_wp2_with (first | ((with_reducible refine gD 1 ?_); refine bz 1 #[.int .i64 a4, .int .i64 a5, .int .i64 a7, .int .i64 a8, .string a6] 51 HB ?_; clear HB; intro b1 hg e2 hb a0 a9 HB; clear hb hg) | ((with_reducible refine gD 2 ?_); refine bz 2 #[.int .i64 0, .int .i64 0, .int .i64 0, .int .i64 0, .string (⟨#[]⟩ : ByteArray)] 51 HB ?_; clear HB; intro a3 hg e3 hb a2 b0 HB; have a1 := nL hg a0; replace a0 := kB a0 hb; clear hb hg; have d6 := nn a1; have b9 := y5 a0; have c6 := y5 a2))
 refine bodyPost_ret (results_cell_row rfl _ _ a3 51 #[.int .i64 a4, .int .i64 a5, .int .i64 a7, .int .i64 a8, .string a6] (0, 0) _ rfl (pP a2.out) Try.underlying51 rfl (by kernel_rfl)) rfl ?_
 exact ⟨er, pB HB.out⟩
def Gf.f (a0 : Int) (a1 : Int) (a2 : Int) (a3 : Int) (a4 : ByteArray) : Option (Int × Int × Int × Int × ByteArray) := if a0 = 0 then (some (1, a1, a2, a3, a4)) else (some (a0, a1, a2, a3, a4))
set_option maxHeartbeats 8000000 in
set_option maxRecDepth 100000 in
theorem Gf.calls (a3 : Int) (a4 : Int) (a5 : Int) (a6 : Int) (a7 : ByteArray) (r1 : Int) (r2 : Int) (r3 : Int) (r4 : Int) (r5 : ByteArray) (w : World) (h : Gf.f a3 a4 a5 a6 a7 = some (r1, r2, r3, r4, r5)) :
  Calls Try.prog 74 #[.agg #[.int .i64 a3, .int .i64 a4, .int .i64 a5, .int .i64 a6, .string a7]] w fun e w' => e = .returned (.agg #[.int .i64 r1, .int .i64 r2, .int .i64 r3, .int .i64 r4, .string r5]) ∧ Below w.heap.size w w' := by
 have c6 := Try.underlying51
 have HB := am (Below.refl w.heap.size w)
 unfold Gf.f at h
 have H := h
 clear h
 by_cases c2 : a3 = 0
 ·
  rw [if_pos c2] at H
  obtain ⟨b4, b5⟩ := qt c2
  clear c2
  simp only [Option.some.injEq, Prod.mk.injEq] at H
  obtain ⟨rfl, rfl, rfl, rfl, rfl⟩ := H
  go_enter Try.func74, Try.ntmps74
  go_wp2_with (first | ((with_reducible refine gD 1 ?_); refine bz 1 #[.int .i64 a3, .int .i64 a4, .int .i64 a5, .int .i64 a6, .string a7] 51 HB ?_; clear HB; intro b1 hg w3 hb a0 a9 HB; clear hb hg) | ((with_reducible refine gD 2 ?_); refine bz 2 #[.int .i64 0, .int .i64 0, .int .i64 0, .int .i64 0, .string (⟨#[]⟩ : ByteArray)] 51 HB ?_; clear HB; intro a8 hg w4 hb a2 b0 HB; have a1 := nL hg a0; replace a0 := kB a0 hb; clear hb hg; have b9 := nn a1; have b6 := y5 a0; have b7 := y5 a2))
  refine bodyPost_ret (results_cell_row rfl _ _ a8 51 #[.int .i64 1, .int .i64 a4, .int .i64 a5, .int .i64 a6, .string a7] (0, 0) _ rfl (pP a2.out) Try.underlying51 rfl (by kernel_rfl)) rfl ?_
  exact ⟨er, pB HB.out⟩
 rw [if_neg c2] at H
 obtain ⟨b4, b5⟩ := qf c2
 simp only [Option.some.injEq, Prod.mk.injEq] at H
 obtain ⟨rfl, rfl, rfl, rfl, rfl⟩ := H
 go_enter Try.func74, Try.ntmps74
 go_wp2_with (first | ((with_reducible refine gD 1 ?_); refine bz 1 #[.int .i64 a3, .int .i64 a4, .int .i64 a5, .int .i64 a6, .string a7] 51 HB ?_; clear HB; intro b1 hg w8 hb a0 a9 HB; clear hb hg) | ((with_reducible refine gD 2 ?_); refine bz 2 #[.int .i64 0, .int .i64 0, .int .i64 0, .int .i64 0, .string (⟨#[]⟩ : ByteArray)] 51 HB ?_; clear HB; intro a8 hg w9 hb a2 b0 HB; have a1 := nL hg a0; replace a0 := kB a0 hb; clear hb hg; have b8 := nn a1; have b2 := y5 a0; have b3 := y5 a2))
 refine bodyPost_ret (results_cell_row rfl _ _ a8 51 #[.int .i64 a3, .int .i64 a4, .int .i64 a5, .int .i64 a6, .string a7] (0, 0) _ rfl (pP a2.out) Try.underlying51 rfl (by kernel_rfl)) rfl ?_
 exact ⟨er, pB HB.out⟩
mutual
def Fg.l0 : Nat → List (S51) → Int → Int → ByteArray → ByteArray → List (S49) → Int → List (S51) → Option (ByteArray × ByteArray × (List (S49)) × Int × (List (S51)))
 | 0, _, _, _, _, _, _, _, _ => none
 | k + 1, a8, a9, a6, a2, a3, a4, a7, a5 => if a6 < a9 then (if 0 ≤ a6 then (if a6 < (a8.length : Int) then ((Gd.f ((q0a a8 a6).f0) ((q0a a8 a6).f1) ((q0a a8 a6).f2) ((q0a a8 a6).f3) ((q0a a8 a6).f4)).bind fun a0 => ((Fo.f k a2 a3 a4 a7 a5 a6 a0.1 a0.2.1 a0.2.2.1 a0.2.2.2.1 a0.2.2.2.2).bind fun a1 => (Fg.l0 k a8 a9 (wrap64 (a6 + 1)) a1.1 a1.2.1 a1.2.2.1 a1.2.2.2.1 a1.2.2.2.2))) else (none)) else (none)) else (some (a2, a3, a4, 2, a5))
def Fg.l1 : Nat → List (S51) → Int → Int → ByteArray → ByteArray → List (S49) → Int → List (S51) → Option (ByteArray × ByteArray × (List (S49)) × Int × (List (S51)))
 | 0, _, _, _, _, _, _, _, _ => none
 | k + 1, a8, b0, a7, a1, a2, a3, a4, a0 => if a7 < b0 then (if 0 ≤ a7 then (if a7 < (a8.length : Int) then ((Fm.f k a1 a2 a3 a4 a0 a7).bind fun a9 => (if a9 = true then ((Gf.f ((q0a a8 a7).f0) ((q0a a8 a7).f1) ((q0a a8 a7).f2) ((q0a a8 a7).f3) ((q0a a8 a7).f4)).bind fun a5 => ((Fo.f k a1 a2 a3 a4 a0 a7 a5.1 a5.2.1 a5.2.2.1 a5.2.2.2.1 a5.2.2.2.2).bind fun a6 => (Fg.l1 k a8 b0 (wrap64 (a7 + 1)) a6.1 a6.2.1 a6.2.2.1 a6.2.2.2.1 a6.2.2.2.2))) else (Fg.l1 k a8 b0 (wrap64 (a7 + 1)) a1 a2 a3 a4 a0))) else (none)) else (none)) else (Fg.l2 k true a0 (a0.length : Int) 0 a1 a2 a3 a4 a0)
def Fg.l2 : Nat → Bool → List (S51) → Int → Int → ByteArray → ByteArray → List (S49) → Int → List (S51) → Option (ByteArray × ByteArray × (List (S49)) × Int × (List (S51)))
 | 0, _, _, _, _, _, _, _, _, _ => none
 | k + 1, x7, a6, a7, a5, a0, a1, a2, a4, a3 => if a5 < a7 then (if 0 ≤ a5 then (if a5 < (a6.length : Int) then (if x7 = true then (Fg.l2 k (((q0a a6 a5).f0) == 3) a6 a7 (wrap64 (a5 + 1)) a0 a1 a2 a4 a3) else (Fg.l2 k false a6 a7 (wrap64 (a5 + 1)) a0 a1 a2 a4 a3)) else (none)) else (none)) else (if x7 = true then (some (a0, a1, a2, 1, a3)) else (some (a0, a1, a2, a4, a3)))
end
def Fg.f (k : Nat) (a1 : ByteArray) (a2 : ByteArray) (a4 : List (S49)) (a3 : Int) (a0 : List (S51)) : Option (ByteArray × ByteArray × (List (S49)) × Int × (List (S51))) := (Fi.f k a1 a2 a4 a3 a0 4).bind fun a5 => (if a5 = true then (Fg.l0 k a0 (a0.length : Int) 0 a1 a2 a4 a3 a0) else (Fg.l1 k a0 (a0.length : Int) 0 a1 a2 a4 a3 a0))
set_option maxHeartbeats 8000000 in
set_option maxRecDepth 100000 in
theorem Fg.calls (k : Nat) (e7 : ByteArray) (e8 : ByteArray) (b8 : Nat → Prop) (f5 : Option Addr) (f6 : Nat) (e0 : List (S49)) (e9 : Int) (b9 : Nat → Prop) (e5 : Option Addr) (e6 : Nat) (a5 : List (S51)) (r1 : ByteArray) (r2 : ByteArray) (r3 : List (S49)) (r4 : Int) (r5 : List (S51)) (w : World) (q0 : Kd.V k49 49 w w.heap.size (fun k_ => b8 k_) (.slice f5 e0.length f6) e0) (q1 : Kd.V k51 51 w w.heap.size (fun k_ => b9 k_) (.slice e5 a5.length e6) a5) (h : Fg.f k e7 e8 e0 e9 a5 = some (r1, r2, r3, r4, r5)) :
  Calls Try.prog 35 #[.agg #[.string e7, .string e8, .slice f5 e0.length f6, .int .i64 e9, .slice e5 a5.length e6]] w fun e w' => ∃ L3 L4 : Value, e = .returned (.agg #[.string r1, .string r2, L3, .int .i64 r4, L4]) ∧ Kd.V k49 49 w' w.heap.size (fun k_ => ((b8 k_ ∨ b9 k_) ∨ w.heap.size ≤ k_)) L3 r3 ∧ Kd.V k51 51 w' w.heap.size (fun k_ => ((b8 k_ ∨ b9 k_) ∨ w.heap.size ≤ k_)) L4 r5 ∧ Below w.heap.size w w' := by
 have N0 := Try.underlying27
 have N1 := Try.underlying51
 have c9 := am (show Kd.V k49 49 w w.heap.size (fun k_ => ((b8 k_ ∨ b9 k_) ∨ w.heap.size ≤ k_)) (.slice f5 e0.length f6) e0 from Kd.V_mono q0 (fun k_ hk => .inl (.inl hk)))
 have c6 := am (show Kd.V k51 51 w w.heap.size (fun k_ => ((b8 k_ ∨ b9 k_) ∨ w.heap.size ≤ k_)) (.slice e5 a5.length e6) a5 from Kd.V_mono q1 (fun k_ hk => .inl (.inr hk)))
 have HB := am (Below.refl w.heap.size w)
 unfold Fg.f at h
 have H := h
 clear h
 replace H := Option.bind_eq_some_iff.mp H
 obtain ⟨D5, D9, H⟩ := H
 try dsimp only at H
 have A2 := am D9
 clear D9
 by_cases c3 : D5 = true
 ·
  subst c3
  rw [if_pos rfl] at H
  try dsimp only at H
  have H' := am H
  clear H
  go_enter Try.func35, Try.ntmps35
  go_wp2_with (first | ((with_reducible refine gD 1 ?_); refine bz 1 #[.string e7, .string e8, .slice f5 e0.length f6, .int .i64 e9, .slice e5 a5.length e6] 27 HB ?_; clear HB; intro b2 hg w4 hb a0 n7 HB; replace c9 := vE c9 hg hb; replace c6 := vE c6 hg hb; clear hb hg) | ((with_reducible refine gD 2 ?_); refine bz 2 #[.string (⟨#[]⟩ : ByteArray), .string (⟨#[]⟩ : ByteArray), .slice none 0 0, .int .i64 0, .slice none 0 0] 27 HB ?_; clear HB; intro b7 hg w5 hb a4 n8 HB; replace c9 := vE c9 hg hb; replace c6 := vE c6 hg hb; have b1 := nL hg a0; have b6 := nG hg a0; replace a0 := kB a0 hb; clear hb hg; have L9 := nn b1; have k3 := y5 a0) | ((with_reducible refine gC 27 ?_); refine gL 11 Try.func27 #[.agg #[.string e7, .string e8, .slice f5 e0.length f6, .int .i64 e9, .slice e5 a5.length e6], .int .i64 4] ?_; (with_reducible refine (Fi.calls k e7 e8 _ _ e0 e9 _ _ a5 4 true _ ?side1 ?side2 ?side3 ?side4 A2.out).mono ?_); (case side1 => exact pC ((Kd.V_reads' c9.out).2.2)); (case side2 => exact (Kd.V_reads' c9.out).2.1); (case side3 => exact pC ((Kd.V_reads' c6.out).2.2)); (case side4 => exact (Kd.V_reads' c6.out).2.1); rintro e w8 ⟨rfl, hb⟩; refine ⟨_, rfl, ?_⟩; replace c9 := vB c9 hb; replace c6 := vB c6 hb; replace a0 := kB a0 hb; replace a4 := kB a4 hb; replace HB := bS HB hb; (try clear hb); have k4 := y5 a0))
  go_loopg [15] k (fun kq N2 w' => ∃ (b3 : Int) (a6 : ByteArray) (a7 : ByteArray) (a8 : List (S49)) (a9 : Int) (a3 : List (S51)) (d0 : Value) (d6 : Value), N2 = .int .i64 b3 ∧ q0e (Fg.l0 kq a5 (a5.length : Int) b3 a6 a7 a8 a9 a3 = some (r1, r2, r3, r4, r5)) ∧ q0e (kq ≤ k) ∧ q0e (Kd.V k51 51 w' w.heap.size (fun k_ => ((b8 k_ ∨ b9 k_) ∨ w.heap.size ≤ k_) ∧ k_ ≠ b2 ∧ k_ ≠ b7) (.slice e5 a5.length e6) a5) ∧ q0e (Kd.V k49 49 w' w.heap.size (fun k_ => ((b8 k_ ∨ b9 k_) ∨ w.heap.size ≤ k_) ∧ k_ ≠ b2 ∧ k_ ≠ b7) d0 a8) ∧ q0e (Kd.V k51 51 w' w.heap.size (fun k_ => ((b8 k_ ∨ b9 k_) ∨ w.heap.size ≤ k_) ∧ k_ ≠ b2 ∧ k_ ≠ b7) d6 a3) ∧ q0e (w'.heap[b2]? = some (.cells #[.string a6, .string a7, d0, .int .i64 a9, d6] 27 (0, 0))) ∧ q0e (w'.heap[b7]? = some (.cells #[.string (⟨#[]⟩ : ByteArray), .string (⟨#[]⟩ : ByteArray), (.slice none 0 0), .int .i64 0, (.slice none 0 0)] 27 (0, 0))) ∧ q0e (Below w.heap.size w w'))
  case atStart => exact ⟨(0), (e7), (e8), (e0), (e9), (a5), (.slice f5 e0.length f6), (.slice e5 a5.length e6), el, H', ⟨Nat.le_refl _⟩, (vM c6), (vM c9), (vM c6), ⟨pk a0.out⟩, ⟨pk a4.out⟩, ⟨pB HB.out⟩⟩
  case round =>
   clear H'
   try clear c3
   try clear k3
   try clear k4
   try clear a0; try clear a4; try clear HB
   obtain ⟨b3, a6, a7, a8, a9, a3, d0, d6, rfl, HA, h2, d5, a2, a1, a0, a4, HB⟩ := hrel
   cases gk with
   | zero => exact absurd HA.out (by simp [Fg.l0])
   | succ k1 =>
    have H := HA.out
    clear HA
    simp only [Fg.l0] at H
    by_cases m5 : b3 < (a5.length : Int)
    ·
     rw [if_pos m5] at H
     have o3 := decide_eq_true m5
     clear m5
     by_cases r6 : 0 ≤ b3
     ·
      rw [if_pos r6] at H
      have E3 := decide_eq_true r6
      clear r6
      by_cases r7 : b3 < (a5.length : Int)
      ·
       rw [if_pos r7] at H
       have E4 := decide_eq_true r7
       clear r7
       replace H := Option.bind_eq_some_iff.mp H
       obtain ⟨⟨k7, k8, k9, l3, l4⟩, m7, H⟩ := H
       try dsimp only at H
       have L5 := am m7
       clear m7
       replace H := Option.bind_eq_some_iff.mp H
       obtain ⟨⟨q2, q3, l5, q4, l6⟩, m8, H⟩ := H
       try dsimp only at H
       have L6 := am m8
       clear m8
       have H' := am H
       clear H
       have k5 : 0 ≤ (b3 : Int) := od
       have k6 : b3 < (a5.length : Int) := od
       obtain ⟨E2, C5, A6, A7, A8, A9, B0⟩ := q1i (Kd.V_reads' d5.out).2.2 b3 k5 k6
       cases C5
       replace k5 := eq_true k5
       replace k6 := eq_true k6
       try go_wp2_with (first | ((with_reducible refine gD 4 ?_); refine bz 4 #[.int .i64 0, .int .i64 0, .int .i64 0, .int .i64 0, .string (⟨#[]⟩ : ByteArray)] 51 HB ?_; clear HB; intro d1 hg N7 hb b5 E1 HB; replace d5 := vE d5 hg hb; replace a2 := vE a2 hg hb; replace a1 := vE a1 hg hb; have d7 := nL hg a0; have d3 := nG hg a0; replace a0 := kB a0 hb; have m4 := nL hg a4; have g7 := nG hg a4; replace a4 := kB a4 hb; clear hb hg; have H9 := nn d3; have I0 := nn g7; have t5 := y5 b5))
       obtain ⟨w19, hw⟩ : ∃ x, x = (((((N7.setCell ⟨d1, 0, none⟩ (.int .i64 ((q0a a5 b3).f0))).setCell ⟨d1, 1, none⟩ (.int .i64 ((q0a a5 b3).f1))).setCell ⟨d1, 2, none⟩ (.int .i64 ((q0a a5 b3).f2))).setCell ⟨d1, 3, none⟩ (.int .i64 ((q0a a5 b3).f3))).setCell ⟨d1, 4, none⟩ (.string ((q0a a5 b3).f4))) := ⟨_, rfl⟩
       have K6 := vW (ok' := fun k_ => ((b8 k_ ∨ b9 k_) ∨ w.heap.size ≤ k_) ∧ k_ ≠ b2 ∧ k_ ≠ b7 ∧ k_ ≠ d1) hw d5
       have K7 := vW (ok' := fun k_ => ((b8 k_ ∨ b9 k_) ∨ w.heap.size ≤ k_) ∧ k_ ≠ b2 ∧ k_ ≠ b7 ∧ k_ ≠ d1) hw a2
       have K8 := vW (ok' := fun k_ => ((b8 k_ ∨ b9 k_) ∨ w.heap.size ≤ k_) ∧ k_ ≠ b2 ∧ k_ ≠ b7 ∧ k_ ≠ d1) hw a1
       have K9 := kW hw a0
       have L0 := kW hw a4
       have L1 := pW (cs' := #[.int .i64 ((q0a a5 b3).f0), .int .i64 ((q0a a5 b3).f1), .int .i64 ((q0a a5 b3).f2), .int .i64 ((q0a a5 b3).f3), .string ((q0a a5 b3).f4)]) hw b5
       have L2 := bW hw HB
       (try clear d5)
       (try clear a2)
       (try clear a1)
       (try clear a0)
       (try clear a4)
       (try clear b5)
       (try clear HB)
       rw [← hw]
       clear hw
       have d5 := K6
       have a2 := K7
       have a1 := K8
       have a0 := K9
       have a4 := L0
       have b5 := L1
       have HB := L2
       clear K6 K7 K8 K9 L0 L1 L2
       replace d5 := am (Kd.V_drew d5.out)
       replace a2 := am (Kd.V_drew a2.out)
       replace a1 := am (Kd.V_drew a1.out)
       replace a0 := am (q0g a0.out)
       replace a4 := am (q0g a4.out)
       replace b5 := am (q0g b5.out)
       replace HB := am (q0b HB.out)
       refine q2j (n := 6) (S := fun w' => w'.cell? ⟨b2, 0, none⟩ = some (.string a6) ∧ w'.cell? ⟨b2, 1, none⟩ = some (.string a7) ∧ w'.cell? ⟨b2, 2, none⟩ = some (d0) ∧ w'.cell? ⟨b2, 3, none⟩ = some (.int .i64 a9) ∧ w'.cell? ⟨b2, 4, none⟩ = some (d6) ∧ w'.cell? ⟨d1, 0, none⟩ = some (.int .i64 ((q0a a5 b3).f0)) ∧ w'.cell? ⟨d1, 1, none⟩ = some (.int .i64 ((q0a a5 b3).f1)) ∧ w'.cell? ⟨d1, 2, none⟩ = some (.int .i64 ((q0a a5 b3).f2)) ∧ w'.cell? ⟨d1, 3, none⟩ = some (.int .i64 ((q0a a5 b3).f3)) ∧ w'.cell? ⟨d1, 4, none⟩ = some (.string ((q0a a5 b3).f4))) (ds := [5]) #[false, false, false, false, false, false] (by kernel_rfl) rfl rfl ⟨bc a0.out, bc a0.out, bc a0.out, bc a0.out, bc a0.out, bc b5.out, bc b5.out, bc b5.out, bc b5.out, bc b5.out⟩ (fun d9 => ?_)
       generalize w19.drew = N9 at d5 a2 a1 a0 a4 b5 HB d9 ⊢
       refine pure_ (i := 1) (N := some 21) (v := ?_) (a' := ?_) #[false, true, false, false, false, false] rfl rfl (by kernel_rfl) (fun _ _ _ h => h) (Or.inl ⟨by rfl, ?_⟩) ?_ ?_
       rotate_left
       ·
        intro w'
        go_simp
        with_reducible rfl
       rotate_left
       ·
        simp only [Act.put, List.setIfInBounds_toArray, List.set_cons_zero, List.set_cons_succ, q1x, q2b]
        rfl
       refine take_ (i := 0) (N := some 20) (v := ?_) (a' := ?_) #[true, true, false, false, false, false] rfl rfl (by kernel_rfl) (fun _ _ _ h => h) (Or.inl ⟨by rfl, ?_⟩) d9 ?_ ?_
       rotate_left
       ·
        rintro w' ⟨s0, s1, s2, s3, s4, s5, s6, s7, s8, s9⟩
        go_simp
        with_reducible rfl
       rotate_left
       ·
        simp only [Act.put, List.setIfInBounds_toArray, List.set_cons_zero, List.set_cons_succ, q1x, q2b]
        rfl
       refine take_ (i := 2) (N := some 22) (v := ?_) (a' := ?_) #[true, true, true, false, false, false] rfl rfl (by kernel_rfl) (fun _ _ _ h => h) (Or.inl ⟨by rfl, ?_⟩) d9 ?_ ?_
       rotate_left
       ·
        rintro w' ⟨s0, s1, s2, s3, s4, s5, s6, s7, s8, s9⟩
        go_simp
        with_reducible rfl
       rotate_left
       ·
        simp only [Act.put, List.setIfInBounds_toArray, List.set_cons_zero, List.set_cons_succ, q1x, q2b]
        rfl
       refine one_ (i := 3) (N := some 23) #[true, true, true, true, false, false] rfl rfl (by kernel_rfl) (by decide) (fun K hK => ?_)
       refine q1v Try.func67 (by kernel_rfl) rfl #[.agg #[.int .i64 ((q0a a5 b3).f0), .int .i64 ((q0a a5 b3).f1), .int .i64 ((q0a a5 b3).f2), .int .i64 ((q0a a5 b3).f3), .string ((q0a a5 b3).f4)]] (by rfl) rfl rfl (by (try simp only [List.map_toArray, List.map_cons, List.map_nil]); first | done | rfl | (simp only [List.length_drop, List.length_take]; rfl)) ?_
       with_reducible refine (Gd.calls ((q0a a5 b3).f0) ((q0a a5 b3).f1) ((q0a a5 b3).f2) ((q0a a5 b3).f3) ((q0a a5 b3).f4) k7 k8 k9 l3 l4 _ L5.out).mono ?_
       rintro e O0 ⟨rfl, hb⟩
       refine ⟨_, rfl, ?_⟩
       replace d5 := vB d5 hb
       replace a2 := vB a2 hb
       replace a1 := vB a1 hb
       replace a0 := kB a0 hb
       replace a4 := kB a4 hb
       replace b5 := kB b5 hb
       replace HB := bS HB hb
       (try clear hb)
       (try clear hb2)
       (try clear hk)
       (try clear hi)
       obtain ⟨n3, o6, p1⟩ := Kd.V_slice a2.out
       (first | subst p1 | (injection p1 with f1_ f2_ f3_; have h4 := f1_.symm; have h5 := f3_.symm; clear f1_ f2_ f3_; subst h4; subst h5))
       obtain ⟨n4, o7, p2⟩ := Kd.V_slice a1.out
       (first | subst p2 | (injection p2 with f1_ f2_ f3_; have h4 := f1_.symm; have h5 := f3_.symm; clear f1_ f2_ f3_; subst h4; subst h5))
       refine hK.out _ _ ⟨bc a0.out, bc a0.out, bc a0.out, bc a0.out, bc a0.out, bc b5.out, bc b5.out, bc b5.out, bc b5.out, bc b5.out⟩ (fun d9 => ?_)
       clear hK K
       refine nh ?_
       refine one_ (i := 4) (N := some 24) #[true, true, true, true, true, false] rfl rfl (by kernel_rfl) (by decide) (fun K hK => ?_)
       refine q1v Try.func48 (by kernel_rfl) rfl #[.agg #[.string a6, .string a7, .slice n3 a8.length o6, .int .i64 a9, .slice n4 a3.length o7], .int .i64 b3, .agg #[.int .i64 k7, .int .i64 k8, .int .i64 k9, .int .i64 l3, .string l4]] (by rfl) rfl rfl (by (try simp only [List.map_toArray, List.map_cons, List.map_nil]); first | done | rfl | (simp only [List.length_drop, List.length_take]; rfl)) ?_
       with_reducible refine (Fo.calls k1 a6 a7 (fun k_ => (((b8 k_ ∨ b9 k_) ∨ w.heap.size ≤ k_) ∧ (k_ ≠ b2 ∧ (k_ ≠ b7 ∧ k_ ≠ d1)))) _ _ a8 a9 _ _ a3 b3 k7 k8 k9 l3 l4 q2 q3 l5 q4 l6 _ ?side1 ?side2 ?side3 L6.out).mono ?_
       (case side1 => exact a2.out)
       (case side2 => exact pC ((Kd.V_reads' a1.out).2.2))
       (case side3 => exact (Kd.V_reads' a1.out).2.1)
       rintro e q8 ⟨N3, D7, rfl, p9, h6, hb⟩
       refine ⟨_, rfl, ?_⟩
       replace d5 := am (Kd.V_elder' (pV d5.out) (Kd.R_base h6) hb)
       replace a2 := am (Kd.V_elder' (pV a2.out) (Kd.R_base h6) hb)
       replace a1 := am (Kd.V_elder' (pV a1.out) (Kd.R_base h6) hb)
       have j3 := vL (ok' := fun k_ => ((b8 k_ ∨ b9 k_) ∨ w.heap.size ≤ k_) ∧ some k_ ≠ (D7 : Value).ownBlock ∧ k_ ≠ b2 ∧ k_ ≠ b7 ∧ k_ ≠ d1) HB p9 (fun k_ g8 => ⟨Or.elim g8.1 (fun f7 => f7.1) (fun D4 => (.inr (Nat.le_trans (q0m (pB HB.out)) D4))), g8.2, Or.elim g8.1 (fun f7 => f7.2.1) (fB a0), Or.elim g8.1 (fun f7 => f7.2.2.1) (fB a4), Or.elim g8.1 (fun f7 => f7.2.2.2) (fB b5)⟩)
       have j4 := am (Kd.R_lower (Kd.R_newB (Kd.R_newM (M := fun k_ => (w.heap.size ≤ k_)) (Kd.R_mono (ok' := fun k_ => True) h6 (fun _ g8 => trivial)) (q0m (pB HB.out)) (fun k_ h_ => h_)) (g := d1) (o := .cells #[.int .i64 ((q0a a5 b3).f0), .int .i64 ((q0a a5 b3).f1), .int .i64 ((q0a a5 b3).f2), .int .i64 ((q0a a5 b3).f3), .string ((q0a a5 b3).f4)] 51 (0, 0)) (pk b5.out)) (q0m (pB HB.out)))
       replace a0 := kB a0 hb
       replace a4 := kB a4 hb
       replace b5 := kB b5 hb
       replace HB := bS HB hb
       (try clear hb)
       (try clear hb2)
       (try clear hk)
       (try clear hi)
       (try clear p9)
       (try clear h6)
       obtain ⟨B1, B8, p3⟩ := Kd.V_slice j3.out
       (first | subst p3 | (injection p3 with f1_ f2_ f3_; have h4 := f1_.symm; have h5 := f3_.symm; clear f1_ f2_ f3_; subst h4; subst h5))
       obtain ⟨B2, B9, p4⟩ := Kd.R_slice j4.out
       (first | subst p4 | (injection p4 with f1_ f2_ f3_; have h4 := f1_.symm; have h5 := f3_.symm; clear f1_ f2_ f3_; subst h4; subst h5))
       refine hK.out _ _ ⟨bc a0.out, bc a0.out, bc a0.out, bc a0.out, bc a0.out, bc b5.out, bc b5.out, bc b5.out, bc b5.out, bc b5.out⟩ (fun d9 => ?_)
       clear hK K
       refine nh ?_
       refine last_ (i := 5) (N := none) #[true, true, true, true, true, true] rfl rfl (by kernel_rfl) (by decide) (fun K hK => ?_)
       have M0 : q8.cell? ⟨b2, 0, none⟩ = some (.string a6) := bc a0.out
       have E9 := z1 a0.out
       have x4 := b6.out
       have x5 := d3.out
       have u7 := b1.out
       have u8 := d7.out
       have M1 : q8.cell? ⟨b2, 1, none⟩ = some (.string a7) := bc a0.out
       have H0 := q0k a0.out 1
       have x6 := b6.out
       have x7 := d3.out
       have u9 := b1.out
       have v0 := d7.out
       have M2 : q8.cell? ⟨b2, 2, none⟩ = some (.slice n3 a8.length o6) := bc a0.out
       have H1 := q0k a0.out 2
       have x8 := b6.out
       have x9 := d3.out
       have v1 := b1.out
       have v2 := d7.out
       have M3 : q8.cell? ⟨b2, 3, none⟩ = some (.int .i64 a9) := bc a0.out
       have H2 := q0k a0.out 3
       have y0 := b6.out
       have y6 := d3.out
       have v3 := b1.out
       have v4 := d7.out
       have M4 : q8.cell? ⟨b2, 4, none⟩ = some (.slice n4 a3.length o7) := bc a0.out
       have H3 := q0k a0.out 4
       have y7 := b6.out
       have y8 := d3.out
       have v5 := b1.out
       have v6 := d7.out
       refine skip_ (w1 := ?_) (by rfl) rfl ?_ ?_
       rotate_left
       ·
        go_simp
        rfl
       refine hK.out _ _ ?_
       clear hK K
       refine q2c (by kernel_rfl) ?_
       try go_wp2
       go_roundg k1
       case measure => have := h2.out; omega
       case rel => exact ⟨(wrap64 (b3 + 1)), (q2), (q3), (l5), (q4), (l6), (.slice B1 l5.length B8), (.slice B2 l6.length B9), el, H', ⟨by have := h2.out; omega⟩, (vM d5), (vM j3), ⟨Kd.V_mono (Kd.R_V (ok := fun k_ => w.heap.size ≤ k_ ∧ k_ ≠ b2 ∧ k_ ≠ b7) (by exact Kd.R_mono (pR (Kd.R_types (Kd.R_types (Kd.R_types j4.out a0.out (by decide)) a4.out (by decide)) a0.out (by decide))) (fun _ hk => ⟨hk.1.1.1.1.1, ⟨hk.1.1.2, hk.1.2⟩⟩))) (fun k_ hk => by first | exact ⟨(.inr (hk.1)), hk.2⟩ | exact (.inr (hk)))⟩, ⟨pP a0.out⟩, ⟨pk a4.out⟩, ⟨pB HB.out⟩⟩
      rw [if_neg r7] at H
      exact absurd H (by simp)
     rw [if_neg r6] at H
     exact absurd H (by simp)
    rw [if_neg m5] at H
    have o3 := decide_eq_false m5
    clear m5
    simp only [Option.some.injEq, Prod.mk.injEq] at H
    obtain ⟨rfl, rfl, rfl, rfl, rfl⟩ := H
    have I1 := nn b1
    have t6 := y5 a0
    have t7 := y5 a4
    obtain ⟨B3, C0, C6⟩ := Kd.V_slice a2.out
    subst C6
    obtain ⟨B4, C1, C7⟩ := Kd.V_slice a1.out
    subst C7
    go_wp2
    refine bodyPost_ret (results_cell_row rfl _ _ b7 27 #[.string a6, .string a7, .slice B3 a8.length C0, .int .i64 2, .slice B4 a3.length C1] (0, 0) _ rfl (pP a4.out) Try.underlying27 rfl (by kernel_rfl)) rfl ?_
    exact ⟨_, _, by first | rfl | (simp [q1f, q1e] <;> rfl) | (simp [*, q1f, q1e] <;> rfl), by exact Kd.V_mono (pV a2.out) (fun _ hk => hk.1), by exact Kd.V_mono (pV a1.out) (fun _ hk => hk.1), pB HB.out⟩
 replace c3 := Bool.eq_false_iff.mpr c3
 subst c3
 rw [if_neg (show ¬ (false = true) by decide)] at H
 try dsimp only at H
 have H' := am H
 clear H
 go_enter Try.func35, Try.ntmps35
 go_wp2_with (first | ((with_reducible refine gD 1 ?_); refine bz 1 #[.string e7, .string e8, .slice f5 e0.length f6, .int .i64 e9, .slice e5 a5.length e6] 27 HB ?_; clear HB; intro b2 hg O1 hb a0 n7 HB; replace c9 := vE c9 hg hb; replace c6 := vE c6 hg hb; clear hb hg) | ((with_reducible refine gD 2 ?_); refine bz 2 #[.string (⟨#[]⟩ : ByteArray), .string (⟨#[]⟩ : ByteArray), .slice none 0 0, .int .i64 0, .slice none 0 0] 27 HB ?_; clear HB; intro b7 hg O2 hb a4 n8 HB; replace c9 := vE c9 hg hb; replace c6 := vE c6 hg hb; have b1 := nL hg a0; have b6 := nG hg a0; replace a0 := kB a0 hb; clear hb hg; have I2 := nn b1; have g2 := y5 a0) | ((with_reducible refine gC 27 ?_); refine gL 11 Try.func27 #[.agg #[.string e7, .string e8, .slice f5 e0.length f6, .int .i64 e9, .slice e5 a5.length e6], .int .i64 4] ?_; (with_reducible refine (Fi.calls k e7 e8 _ _ e0 e9 _ _ a5 4 false _ ?side1 ?side2 ?side3 ?side4 A2.out).mono ?_); (case side1 => exact pC ((Kd.V_reads' c9.out).2.2)); (case side2 => exact (Kd.V_reads' c9.out).2.1); (case side3 => exact pC ((Kd.V_reads' c6.out).2.2)); (case side4 => exact (Kd.V_reads' c6.out).2.1); rintro e O3 ⟨rfl, hb⟩; refine ⟨_, rfl, ?_⟩; replace c9 := vB c9 hb; replace c6 := vB c6 hb; replace a0 := kB a0 hb; replace a4 := kB a4 hb; replace HB := bS HB hb; (try clear hb); have g3 := y5 a0))
 go_loopg [31] k (fun kq N5 w' => ∃ (b0 : Int) (a6 : ByteArray) (a7 : ByteArray) (a8 : List (S49)) (a9 : Int) (a3 : List (S51)) (d0 : Value) (d6 : Value), N5 = .int .i64 b0 ∧ q0e (Fg.l1 kq a5 (a5.length : Int) b0 a6 a7 a8 a9 a3 = some (r1, r2, r3, r4, r5)) ∧ q0e (kq ≤ k) ∧ q0e (Kd.V k51 51 w' w.heap.size (fun k_ => ((b8 k_ ∨ b9 k_) ∨ w.heap.size ≤ k_) ∧ k_ ≠ b2 ∧ k_ ≠ b7) (.slice e5 a5.length e6) a5) ∧ q0e (Kd.V k49 49 w' w.heap.size (fun k_ => ((b8 k_ ∨ b9 k_) ∨ w.heap.size ≤ k_) ∧ k_ ≠ b2 ∧ k_ ≠ b7) d0 a8) ∧ q0e (Kd.V k51 51 w' w.heap.size (fun k_ => ((b8 k_ ∨ b9 k_) ∨ w.heap.size ≤ k_) ∧ k_ ≠ b2 ∧ k_ ≠ b7) d6 a3) ∧ q0e (w'.heap[b2]? = some (.cells #[.string a6, .string a7, d0, .int .i64 a9, d6] 27 (0, 0))) ∧ q0e (w'.heap[b7]? = some (.cells #[.string (⟨#[]⟩ : ByteArray), .string (⟨#[]⟩ : ByteArray), (.slice none 0 0), .int .i64 0, (.slice none 0 0)] 27 (0, 0))) ∧ q0e (Below w.heap.size w w'))
 case atStart => exact ⟨(0), (e7), (e8), (e0), (e9), (a5), (.slice f5 e0.length f6), (.slice e5 a5.length e6), el, H', ⟨Nat.le_refl _⟩, (vM c6), (vM c9), (vM c6), ⟨pk a0.out⟩, ⟨pk a4.out⟩, ⟨pB HB.out⟩⟩
 case round =>
  clear H'
  try clear c3
  try clear g2
  try clear g3
  try clear a0; try clear a4; try clear HB
  obtain ⟨b0, a6, a7, a8, a9, a3, d0, d6, rfl, HA, h2, c8, a2, a1, a0, a4, HB⟩ := hrel
  cases gk with
  | zero => exact absurd HA.out (by simp [Fg.l1])
  | succ k1 =>
   have H := HA.out
   clear HA
   simp only [Fg.l1] at H
   by_cases j8 : b0 < (a5.length : Int)
   ·
    rw [if_pos j8] at H
    have j7 := decide_eq_true j8
    clear j8
    by_cases r8 : 0 ≤ b0
    ·
     rw [if_pos r8] at H
     have E5 := decide_eq_true r8
     clear r8
     by_cases r9 : b0 < (a5.length : Int)
     ·
      rw [if_pos r9] at H
      have E6 := decide_eq_true r9
      clear r9
      replace H := Option.bind_eq_some_iff.mp H
      obtain ⟨D6, m9, H⟩ := H
      try dsimp only at H
      have E0 := am m9
      clear m9
      by_cases t0 : D6 = true
      ·
       subst t0
       rw [if_pos rfl] at H
       try dsimp only at H
       replace H := Option.bind_eq_some_iff.mp H
       obtain ⟨⟨l7, l8, l9, m0, m1⟩, n0, H⟩ := H
       try dsimp only at H
       have L7 := am n0
       clear n0
       replace H := Option.bind_eq_some_iff.mp H
       obtain ⟨⟨q5, q6, m2, q7, m3⟩, n1, H⟩ := H
       try dsimp only at H
       have L8 := am n1
       clear n1
       have H' := am H
       clear H
       have f8 : 0 ≤ (b0 : Int) := od
       have g0 : b0 < (a5.length : Int) := od
       obtain ⟨o1, j9, i3, i4, i5, i6, i7⟩ := q1i (Kd.V_reads' c8.out).2.2 b0 f8 g0
       cases j9
       replace f8 := eq_true f8
       replace g0 := eq_true g0
       try go_wp2_with (first | ((with_reducible refine gD 6 ?_); refine bz 6 #[.int .i64 0, .int .i64 0, .int .i64 0, .int .i64 0, .string (⟨#[]⟩ : ByteArray)] 51 HB ?_; clear HB; intro d8 hg O4 hb b4 n9 HB; replace c8 := vE c8 hg hb; replace a2 := vE a2 hg hb; replace a1 := vE a1 hg hb; have d2 := nL hg a0; have c7 := nG hg a0; replace a0 := kB a0 hb; have g5 := nL hg a4; have e1 := nG hg a4; replace a4 := kB a4 hb; clear hb hg; have I3 := nn c7; have I4 := nn e1; have t8 := y5 b4; have I5 := nn b1; have t9 := y5 a0; obtain ⟨h8, i0, C8⟩ := Kd.V_slice a2.out; subst C8; obtain ⟨h9, i1, C9⟩ := Kd.V_slice a1.out; subst C9) | ((with_reducible refine gC 41 ?_); refine gL 38 Try.func41 #[.agg #[.string a6, .string a7, .slice h8 a8.length i0, .int .i64 a9, .slice h9 a3.length i1], .int .i64 b0] ?_; (with_reducible refine (Fm.calls k1 a6 a7 _ _ a8 a9 _ _ a3 b0 true _ ?side1 ?side2 ?side3 ?side4 E0.out).mono ?_); (case side1 => exact (Kd.V_reads' (pV a2.out)).2.2); (case side2 => exact (Kd.V_reads' a2.out).2.1); (case side3 => exact (Kd.V_reads' (pV a1.out)).2.2); (case side4 => exact (Kd.V_reads' a1.out).2.1); rintro e N8 ⟨rfl, hb⟩; refine ⟨_, rfl, ?_⟩; replace c8 := vB c8 hb; replace a2 := vB a2 hb; replace a1 := vB a1 hb; replace a0 := kB a0 hb; replace a4 := kB a4 hb; replace b4 := am (q0c (g := d8) (o := .cells #[.int .i64 ((q0a a5 b0).f0), .int .i64 ((q0a a5 b0).f1), .int .i64 ((q0a a5 b0).f2), .int .i64 ((q0a a5 b0).f3), .string ((q0a a5 b0).f4)] 51 (0, 0)) (pP b4.out) hb); replace HB := bS HB hb; (try clear hb)))
       replace c8 := am (Kd.V_drew c8.out)
       replace a2 := am (Kd.V_drew a2.out)
       replace a1 := am (Kd.V_drew a1.out)
       replace a0 := am (q0g a0.out)
       replace a4 := am (q0g a4.out)
       replace b4 := am (q0g b4.out)
       replace HB := am (q0b HB.out)
       refine q2j (n := 6) (S := fun w' => w'.cell? ⟨b2, 0, none⟩ = some (.string a6) ∧ w'.cell? ⟨b2, 1, none⟩ = some (.string a7) ∧ w'.cell? ⟨b2, 2, none⟩ = some (.slice h8 a8.length i0) ∧ w'.cell? ⟨b2, 3, none⟩ = some (.int .i64 a9) ∧ w'.cell? ⟨b2, 4, none⟩ = some (.slice h9 a3.length i1) ∧ w'.cell? ⟨d8, 0, none⟩ = some (.int .i64 ((q0a a5 b0).f0)) ∧ w'.cell? ⟨d8, 1, none⟩ = some (.int .i64 ((q0a a5 b0).f1)) ∧ w'.cell? ⟨d8, 2, none⟩ = some (.int .i64 ((q0a a5 b0).f2)) ∧ w'.cell? ⟨d8, 3, none⟩ = some (.int .i64 ((q0a a5 b0).f3)) ∧ w'.cell? ⟨d8, 4, none⟩ = some (.string ((q0a a5 b0).f4))) (ds := [5]) #[false, false, false, false, false, false] (by kernel_rfl) rfl rfl ⟨bc a0.out, bc a0.out, bc a0.out, bc a0.out, bc a0.out, bc b4.out, bc b4.out, bc b4.out, bc b4.out, bc b4.out⟩ (fun d9 => ?_)
       generalize N8.drew = O5 at c8 a2 a1 a0 a4 b4 HB d9 ⊢
       refine pure_ (i := 1) (N := some 40) (v := ?_) (a' := ?_) #[false, true, false, false, false, false] rfl rfl (by kernel_rfl) (fun _ _ _ h => h) (Or.inl ⟨by rfl, ?_⟩) ?_ ?_
       rotate_left
       ·
        intro w'
        go_simp
        with_reducible rfl
       rotate_left
       ·
        simp only [Act.put, List.setIfInBounds_toArray, List.set_cons_zero, List.set_cons_succ, q1x, q2b]
        rfl
       refine take_ (i := 0) (N := some 39) (v := ?_) (a' := ?_) #[true, true, false, false, false, false] rfl rfl (by kernel_rfl) (fun _ _ _ h => h) (Or.inl ⟨by rfl, ?_⟩) d9 ?_ ?_
       rotate_left
       ·
        rintro w' ⟨s0, s1, s2, s3, s4, s5, s6, s7, s8, s9⟩
        go_simp
        with_reducible rfl
       rotate_left
       ·
        simp only [Act.put, List.setIfInBounds_toArray, List.set_cons_zero, List.set_cons_succ, q1x, q2b]
        rfl
       refine take_ (i := 2) (N := some 41) (v := ?_) (a' := ?_) #[true, true, true, false, false, false] rfl rfl (by kernel_rfl) (fun _ _ _ h => h) (Or.inl ⟨by rfl, ?_⟩) d9 ?_ ?_
       rotate_left
       ·
        rintro w' ⟨s0, s1, s2, s3, s4, s5, s6, s7, s8, s9⟩
        go_simp
        with_reducible rfl
       rotate_left
       ·
        simp only [Act.put, List.setIfInBounds_toArray, List.set_cons_zero, List.set_cons_succ, q1x, q2b]
        rfl
       refine one_ (i := 3) (N := some 42) #[true, true, true, true, false, false] rfl rfl (by kernel_rfl) (by decide) (fun K hK => ?_)
       refine q1v Try.func74 (by kernel_rfl) rfl #[.agg #[.int .i64 ((q0a a5 b0).f0), .int .i64 ((q0a a5 b0).f1), .int .i64 ((q0a a5 b0).f2), .int .i64 ((q0a a5 b0).f3), .string ((q0a a5 b0).f4)]] (by rfl) rfl rfl (by (try simp only [List.map_toArray, List.map_cons, List.map_nil]); first | done | rfl | (simp only [List.length_drop, List.length_take]; rfl)) ?_
       with_reducible refine (Gf.calls ((q0a a5 b0).f0) ((q0a a5 b0).f1) ((q0a a5 b0).f2) ((q0a a5 b0).f3) ((q0a a5 b0).f4) l7 l8 l9 m0 m1 _ L7.out).mono ?_
       rintro e O6 ⟨rfl, hb⟩
       refine ⟨_, rfl, ?_⟩
       replace c8 := vB c8 hb
       replace a2 := vB a2 hb
       replace a1 := vB a1 hb
       replace a0 := kB a0 hb
       replace a4 := kB a4 hb
       replace b4 := kB b4 hb
       replace HB := bS HB hb
       (try clear hb)
       (try clear hb2)
       (try clear hk)
       (try clear hi)
       refine hK.out _ _ ⟨bc a0.out, bc a0.out, bc a0.out, bc a0.out, bc a0.out, bc b4.out, bc b4.out, bc b4.out, bc b4.out, bc b4.out⟩ (fun d9 => ?_)
       clear hK K
       refine nh ?_
       refine one_ (i := 4) (N := some 43) #[true, true, true, true, true, false] rfl rfl (by kernel_rfl) (by decide) (fun K hK => ?_)
       refine q1v Try.func48 (by kernel_rfl) rfl #[.agg #[.string a6, .string a7, .slice h8 a8.length i0, .int .i64 a9, .slice h9 a3.length i1], .int .i64 b0, .agg #[.int .i64 l7, .int .i64 l8, .int .i64 l9, .int .i64 m0, .string m1]] (by rfl) rfl rfl (by (try simp only [List.map_toArray, List.map_cons, List.map_nil]); first | done | rfl | (simp only [List.length_drop, List.length_take]; rfl)) ?_
       with_reducible refine (Fo.calls k1 a6 a7 (fun k_ => ((((b8 k_ ∨ b9 k_) ∨ w.heap.size ≤ k_) ∧ (k_ ≠ b2 ∧ k_ ≠ b7)) ∧ k_ ≠ d8)) _ _ a8 a9 _ _ a3 b0 l7 l8 l9 m0 m1 q5 q6 m2 q7 m3 _ ?side1 ?side2 ?side3 L8.out).mono ?_
       (case side1 => exact a2.out)
       (case side2 => exact pC ((Kd.V_reads' a1.out).2.2))
       (case side3 => exact (Kd.V_reads' a1.out).2.1)
       rintro e q9 ⟨N4, D8, rfl, p9, h6, hb⟩
       refine ⟨_, rfl, ?_⟩
       replace c8 := am (Kd.V_elder' (pV c8.out) (Kd.R_base h6) hb)
       replace a2 := am (Kd.V_elder' (pV a2.out) (Kd.R_base h6) hb)
       replace a1 := am (Kd.V_elder' (pV a1.out) (Kd.R_base h6) hb)
       have j5 := vL (ok' := fun k_ => ((b8 k_ ∨ b9 k_) ∨ w.heap.size ≤ k_) ∧ some k_ ≠ (D8 : Value).ownBlock ∧ k_ ≠ b2 ∧ k_ ≠ b7 ∧ k_ ≠ d8) HB p9 (fun k_ g8 => ⟨Or.elim g8.1 (fun f7 => f7.1.1) (fun D4 => (.inr (Nat.le_trans (q0m (pB HB.out)) D4))), g8.2, Or.elim g8.1 (fun f7 => f7.1.2.1) (fB a0), Or.elim g8.1 (fun f7 => f7.1.2.2) (fB a4), Or.elim g8.1 (fun f7 => f7.2) (fB b4)⟩)
       have j6 := am (Kd.R_lower (Kd.R_newB (Kd.R_newM (M := fun k_ => (w.heap.size ≤ k_)) (Kd.R_mono (ok' := fun k_ => True) h6 (fun _ g8 => trivial)) (q0m (pB HB.out)) (fun k_ h_ => h_)) (g := d8) (o := .cells #[.int .i64 ((q0a a5 b0).f0), .int .i64 ((q0a a5 b0).f1), .int .i64 ((q0a a5 b0).f2), .int .i64 ((q0a a5 b0).f3), .string ((q0a a5 b0).f4)] 51 (0, 0)) (pk b4.out)) (q0m (pB HB.out)))
       replace a0 := kB a0 hb
       replace a4 := kB a4 hb
       replace b4 := kB b4 hb
       replace HB := bS HB hb
       (try clear hb)
       (try clear hb2)
       (try clear hk)
       (try clear hi)
       (try clear p9)
       (try clear h6)
       obtain ⟨B5, C2, p5⟩ := Kd.V_slice j5.out
       (first | subst p5 | (injection p5 with f1_ f2_ f3_; have h4 := f1_.symm; have h5 := f3_.symm; clear f1_ f2_ f3_; subst h4; subst h5))
       obtain ⟨B6, C3, p6⟩ := Kd.R_slice j6.out
       (first | subst p6 | (injection p6 with f1_ f2_ f3_; have h4 := f1_.symm; have h5 := f3_.symm; clear f1_ f2_ f3_; subst h4; subst h5))
       refine hK.out _ _ ⟨bc a0.out, bc a0.out, bc a0.out, bc a0.out, bc a0.out, bc b4.out, bc b4.out, bc b4.out, bc b4.out, bc b4.out⟩ (fun d9 => ?_)
       clear hK K
       refine nh ?_
       refine last_ (i := 5) (N := none) #[true, true, true, true, true, true] rfl rfl (by kernel_rfl) (by decide) (fun K hK => ?_)
       have M5 : q9.cell? ⟨b2, 0, none⟩ = some (.string a6) := bc a0.out
       have H4 := z1 a0.out
       have y9 := b6.out
       have z0 := c7.out
       have v8 := b1.out
       have v9 := d2.out
       have M6 : q9.cell? ⟨b2, 1, none⟩ = some (.string a7) := bc a0.out
       have H5 := q0k a0.out 1
       have z6 := b6.out
       have z7 := c7.out
       have w2 := b1.out
       have w3 := d2.out
       have M7 : q9.cell? ⟨b2, 2, none⟩ = some (.slice h8 a8.length i0) := bc a0.out
       have H6 := q0k a0.out 2
       have z8 := b6.out
       have z9 := c7.out
       have w6 := b1.out
       have w7 := d2.out
       have M8 : q9.cell? ⟨b2, 3, none⟩ = some (.int .i64 a9) := bc a0.out
       have H7 := q0k a0.out 3
       have A1 := b6.out
       have A3 := c7.out
       have w9 := b1.out
       have x0 := d2.out
       have M9 : q9.cell? ⟨b2, 4, none⟩ = some (.slice h9 a3.length i1) := bc a0.out
       have H8 := q0k a0.out 4
       have A4 := b6.out
       have A5 := c7.out
       have x2 := b1.out
       have x3 := d2.out
       refine skip_ (w1 := ?_) (by rfl) rfl ?_ ?_
       rotate_left
       ·
        go_simp
        rfl
       refine hK.out _ _ ?_
       clear hK K
       refine q2c (by kernel_rfl) ?_
       try go_wp2
       go_roundg k1
       case measure => have := h2.out; omega
       case rel => exact ⟨(wrap64 (b0 + 1)), (q5), (q6), (m2), (q7), (m3), (.slice B5 m2.length C2), (.slice B6 m3.length C3), el, H', ⟨by have := h2.out; omega⟩, (vM c8), (vM j5), ⟨Kd.V_mono (Kd.R_V (ok := fun k_ => w.heap.size ≤ k_ ∧ k_ ≠ b2 ∧ k_ ≠ b7) (by exact Kd.R_mono (pR (Kd.R_types (Kd.R_types (Kd.R_types j6.out a0.out (by decide)) a4.out (by decide)) a0.out (by decide))) (fun _ hk => ⟨hk.1.1.1.1.1, ⟨hk.1.1.2, hk.1.2⟩⟩))) (fun k_ hk => by first | exact ⟨(.inr (hk.1)), hk.2⟩ | exact (.inr (hk)))⟩, ⟨pP a0.out⟩, ⟨pk a4.out⟩, ⟨pB HB.out⟩⟩
      replace t0 := Bool.eq_false_iff.mpr t0
      subst t0
      rw [if_neg (show ¬ (false = true) by decide)] at H
      try dsimp only at H
      have H' := am H
      clear H
      have f8 : 0 ≤ (b0 : Int) := od
      have g0 : b0 < (a5.length : Int) := od
      obtain ⟨o1, j9, i3, i4, i5, i6, i7⟩ := q1i (Kd.V_reads' c8.out).2.2 b0 f8 g0
      cases j9
      replace f8 := eq_true f8
      replace g0 := eq_true g0
      go_wp2_with (first | ((with_reducible refine gD 6 ?_); refine bz 6 #[.int .i64 0, .int .i64 0, .int .i64 0, .int .i64 0, .string (⟨#[]⟩ : ByteArray)] 51 HB ?_; clear HB; intro d8 hg O7 hb b4 n9 HB; replace c8 := vE c8 hg hb; replace a2 := vE a2 hg hb; replace a1 := vE a1 hg hb; have d2 := nL hg a0; have c7 := nG hg a0; replace a0 := kB a0 hb; have g5 := nL hg a4; have e1 := nG hg a4; replace a4 := kB a4 hb; clear hb hg; have I6 := nn c7; have I7 := nn e1; have u0 := y5 b4; have I8 := nn b1; have u1 := y5 a0; obtain ⟨n5, o8, D0⟩ := Kd.V_slice a2.out; subst D0; obtain ⟨n6, o9, D1⟩ := Kd.V_slice a1.out; subst D1) | ((with_reducible refine gC 41 ?_); refine gL 38 Try.func41 #[.agg #[.string a6, .string a7, .slice n5 a8.length o8, .int .i64 a9, .slice n6 a3.length o9], .int .i64 b0] ?_; (with_reducible refine (Fm.calls k1 a6 a7 _ _ a8 a9 _ _ a3 b0 false _ ?side1 ?side2 ?side3 ?side4 E0.out).mono ?_); (case side1 => exact (Kd.V_reads' (pV a2.out)).2.2); (case side2 => exact (Kd.V_reads' a2.out).2.1); (case side3 => exact (Kd.V_reads' (pV a1.out)).2.2); (case side4 => exact (Kd.V_reads' a1.out).2.1); rintro e O8 ⟨rfl, hb⟩; refine ⟨_, rfl, ?_⟩; replace c8 := vB c8 hb; replace a2 := vB a2 hb; replace a1 := vB a1 hb; replace a0 := kB a0 hb; replace a4 := kB a4 hb; replace b4 := am (q0c (g := d8) (o := .cells #[.int .i64 ((q0a a5 b0).f0), .int .i64 ((q0a a5 b0).f1), .int .i64 ((q0a a5 b0).f2), .int .i64 ((q0a a5 b0).f3), .string ((q0a a5 b0).f4)] 51 (0, 0)) (pP b4.out) hb); replace HB := bS HB hb; (try clear hb)))
      go_roundg k1
      case measure => have := h2.out; omega
      case rel => exact ⟨(wrap64 (b0 + 1)), (a6), (a7), (a8), (a9), (a3), (.slice n5 a8.length o8), (.slice n6 a3.length o9), el, H', ⟨by have := h2.out; omega⟩, (vM c8), (vM a2), (vM a1), ⟨pk a0.out⟩, ⟨pk a4.out⟩, ⟨pB HB.out⟩⟩
     rw [if_neg r9] at H
     exact absurd H (by simp)
    rw [if_neg r8] at H
    exact absurd H (by simp)
   rw [if_neg j8] at H
   have j7 := decide_eq_false j8
   clear j8
   have H' := am H
   clear H
   have I9 := nn b1
   have i2 := y5 a0
   obtain ⟨g9, h3, D2⟩ := Kd.V_slice a1.out
   subst D2
   go_wp2
   go_loopg [7, 48] k1 (fun kq v7 N6 w' => ∃ (h7 : Bool) (d4 : Int), v7 = .bool h7 ∧ N6 = .int .i64 d4 ∧ q0e (Fg.l2 kq h7 a3 (a3.length : Int) d4 a6 a7 a8 a9 a3 = some (r1, r2, r3, r4, r5)) ∧ q0e (kq ≤ k1) ∧ q0e (Kd.V k51 51 w' w.heap.size (fun k_ => ((b8 k_ ∨ b9 k_) ∨ w.heap.size ≤ k_) ∧ k_ ≠ b2 ∧ k_ ≠ b7) (.slice g9 a3.length h3) a3) ∧ q0e (Kd.V k49 49 w' w.heap.size (fun k_ => ((b8 k_ ∨ b9 k_) ∨ w.heap.size ≤ k_) ∧ k_ ≠ b2 ∧ k_ ≠ b7) d0 a8) ∧ q0e (Kd.V k51 51 w' w.heap.size (fun k_ => ((b8 k_ ∨ b9 k_) ∨ w.heap.size ≤ k_) ∧ k_ ≠ b2 ∧ k_ ≠ b7) (.slice g9 a3.length h3) a3) ∧ q0e (w'.heap[b2]? = some (.cells #[.string a6, .string a7, d0, .int .i64 a9, (.slice g9 a3.length h3)] 27 (0, 0))) ∧ q0e (w'.heap[b7]? = some (.cells #[.string (⟨#[]⟩ : ByteArray), .string (⟨#[]⟩ : ByteArray), (.slice none 0 0), .int .i64 0, (.slice none 0 0)] 27 (0, 0))) ∧ q0e (Below w.heap.size w w'))
   case atStart => exact ⟨(true), (0), el, el, H', ⟨Nat.le_refl _⟩, ⟨(pV a1.out)⟩, ⟨(pV a2.out)⟩, ⟨(pV a1.out)⟩, ⟨pk a0.out⟩, ⟨pk a4.out⟩, ⟨pB HB.out⟩⟩
   case round =>
    clear H'
    try clear c3
    try clear j8
    try clear j7
    try clear g2
    try clear g3
    try clear i2
    try clear a0; try clear a4; try clear HB
    obtain ⟨h7, d4, rfl, rfl, HA, r0, e4, a2, a1, a0, a4, HB⟩ := hrel
    cases gk with
    | zero => exact absurd HA.out (by simp [Fg.l2])
    | succ k2 =>
     have H := HA.out
     clear HA
     simp only [Fg.l2] at H
     by_cases m6 : d4 < (a3.length : Int)
     ·
      rw [if_pos m6] at H
      have o4 := decide_eq_true m6
      clear m6
      by_cases t1 : 0 ≤ d4
      ·
       rw [if_pos t1] at H
       have E7 := decide_eq_true t1
       clear t1
       by_cases t2 : d4 < (a3.length : Int)
       ·
        rw [if_pos t2] at H
        have E8 := decide_eq_true t2
        clear t2
        by_cases t3 : h7 = true
        ·
         subst t3
         rw [if_pos rfl] at H
         try dsimp only at H
         have H' := am H
         clear H
         have f9 : 0 ≤ (d4 : Int) := od
         have g1 : d4 < (a3.length : Int) := od
         obtain ⟨o2, k0, i8, i9, j0, j1, j2⟩ := q1i (Kd.V_reads' e4.out).2.2 d4 f9 g1
         cases k0
         replace f9 := eq_true f9
         replace g1 := eq_true g1
         go_wp2_with (first | ((with_reducible refine gD 9 ?_); refine bz 9 #[.int .i64 0, .int .i64 0, .int .i64 0, .int .i64 0, .string (⟨#[]⟩ : ByteArray)] 51 HB ?_; clear HB; intro p7 hg O9 hb h0 o0 HB; replace e4 := vE e4 hg hb; replace a2 := vE a2 hg hb; replace a1 := vE a1 hg hb; have g4 := nL hg a0; have e2 := nG hg a0; replace a0 := kB a0 hb; have g6 := nL hg a4; have e3 := nG hg a4; replace a4 := kB a4 hb; clear hb hg; have K0 := nn e2; have K1 := nn e3; have u2 := y5 h0))
         go_roundg k2
         case measure => have := h2.out; have := r0.out; omega
         case rel => exact ⟨((((q0a a3 d4).f0) == 3)), (wrap64 (d4 + 1)), el, el, H', ⟨by have := h2.out; have := r0.out; omega⟩, (vM e4), (vM a2), (vM a1), ⟨pk a0.out⟩, ⟨pk a4.out⟩, ⟨pB HB.out⟩⟩
        replace t3 := Bool.eq_false_iff.mpr t3
        subst t3
        rw [if_neg (show ¬ (false = true) by decide)] at H
        try dsimp only at H
        have H' := am H
        clear H
        have f9 : 0 ≤ (d4 : Int) := od
        have g1 : d4 < (a3.length : Int) := od
        obtain ⟨o2, k0, i8, i9, j0, j1, j2⟩ := q1i (Kd.V_reads' e4.out).2.2 d4 f9 g1
        cases k0
        replace f9 := eq_true f9
        replace g1 := eq_true g1
        go_wp2_with (first | ((with_reducible refine gD 9 ?_); refine bz 9 #[.int .i64 0, .int .i64 0, .int .i64 0, .int .i64 0, .string (⟨#[]⟩ : ByteArray)] 51 HB ?_; clear HB; intro p7 hg P0 hb h0 o0 HB; replace e4 := vE e4 hg hb; replace a2 := vE a2 hg hb; replace a1 := vE a1 hg hb; have g4 := nL hg a0; have e2 := nG hg a0; replace a0 := kB a0 hb; have g6 := nL hg a4; have e3 := nG hg a4; replace a4 := kB a4 hb; clear hb hg; have K2 := nn e2; have K3 := nn e3; have u3 := y5 h0))
        go_roundg k2
        case measure => have := h2.out; have := r0.out; omega
        case rel => exact ⟨(false), (wrap64 (d4 + 1)), el, el, H', ⟨by have := h2.out; have := r0.out; omega⟩, (vM e4), (vM a2), (vM a1), ⟨pk a0.out⟩, ⟨pk a4.out⟩, ⟨pB HB.out⟩⟩
       rw [if_neg t2] at H
       exact absurd H (by simp)
      rw [if_neg t1] at H
      exact absurd H (by simp)
     rw [if_neg m6] at H
     have o4 := decide_eq_false m6
     clear m6
     by_cases t4 : h7 = true
     ·
      subst t4
      rw [if_pos rfl] at H
      try dsimp only at H
      simp only [Option.some.injEq, Prod.mk.injEq] at H
      obtain ⟨rfl, rfl, rfl, rfl, rfl⟩ := H
      have K4 := nn b1
      have u4 := y5 a0
      have u5 := y5 a4
      obtain ⟨B7, C4, D3⟩ := Kd.V_slice a2.out
      subst D3
      go_wp2
      refine bodyPost_ret (results_cell_row rfl _ _ b7 27 #[.string a6, .string a7, .slice B7 a8.length C4, .int .i64 1, .slice g9 a3.length h3] (0, 0) _ rfl (pP a4.out) Try.underlying27 rfl (by kernel_rfl)) rfl ?_
      exact ⟨_, _, by first | rfl | (simp [q1f, q1e] <;> rfl) | (simp [*, q1f, q1e] <;> rfl), by exact Kd.V_mono (pV a2.out) (fun _ hk => hk.1), by exact Kd.V_mono (pV a1.out) (fun _ hk => hk.1), pB HB.out⟩
     replace t4 := Bool.eq_false_iff.mpr t4
     subst t4
     rw [if_neg (show ¬ (false = true) by decide)] at H
     try dsimp only at H
     simp only [Option.some.injEq, Prod.mk.injEq] at H
     obtain ⟨rfl, rfl, rfl, rfl, rfl⟩ := H
     have K5 := nn b1
     have u6 := y5 a0
     have p8 := y5 a4
     obtain ⟨n2, o5, p0⟩ := Kd.V_slice a2.out
     subst p0
     go_wp2
     refine bodyPost_ret (results_cell_row rfl _ _ b7 27 #[.string a6, .string a7, .slice n2 a8.length o5, .int .i64 a9, .slice g9 a3.length h3] (0, 0) _ rfl (pP a4.out) Try.underlying27 rfl (by kernel_rfl)) rfl ?_
     exact ⟨_, _, by first | rfl | (simp [q1f, q1e] <;> rfl) | (simp [*, q1f, q1e] <;> rfl), by exact Kd.V_mono (pV a2.out) (fun _ hk => hk.1), by exact Kd.V_mono (pV a1.out) (fun _ hk => hk.1), pB HB.out⟩
end Go.Proofs.Ytabmkighhmchmaa.X
