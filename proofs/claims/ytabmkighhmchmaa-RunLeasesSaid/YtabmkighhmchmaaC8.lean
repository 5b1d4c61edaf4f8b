/- Words and walks for the law RunLeases, joined and made small by a program of mine. -/
import Derived.Test.YtabmkighhmchmaaC2
import Derived.Test.YtabmkighhmchmaaC7
import Derived.Test.YtabmkighhmchmaaC6
import Derived.Test.YtabmkighhmchmaaC5
namespace Go.Proofs.Ytabmkighhmchmaa.X
open Go.RowKit Go.YW.PrintWords Go.YW.PrintLast Go.YW.PrintMore Go.YW.Sq
attribute [local go_sem] q0y q0w q1e q1d q0t q0s q0x q0v
set_option linter.unusedVariables false
set_option linter.unusedSimpArgs false
mutual
def Fd.j0 : Nat → Bool → List Int → Int → Int → Int → Int → Int → Int → Int → ByteArray → Option (Bool)
 | 0, _, _, _, _, _, _, _, _, _, _ => none
 | k + 1, a9, a3, a4, a5, a6, a0, a1, a2, a7, a8 => if a9 = true then (some false) else (if a0 = 0 then (if a1 = 0 then (Fd.j1 k (a2 != 0) a3 a4 a5 a6 a0 a1 a2 a7 a8) else (Fd.j1 k true a3 a4 a5 a6 a0 a1 a2 a7 a8)) else (Fd.j1 k false a3 a4 a5 a6 a0 a1 a2 a7 a8))
def Fd.j1 : Nat → Bool → List Int → Int → Int → Int → Int → Int → Int → Int → ByteArray → Option (Bool)
 | 0, _, _, _, _, _, _, _, _, _, _ => none
 | k + 1, a9, a3, a0, a4, a5, a1, a2, a6, a7, a8 => if a9 = true then (some false) else (if a1 = 1 then (Fd.j2 k (decide (a2 ≥ a0)) a3 a0 a4 a5 a1 a2 a6 a7 a8) else (Fd.j2 k false a3 a0 a4 a5 a1 a2 a6 a7 a8))
def Fd.j2 : Nat → Bool → List Int → Int → Int → Int → Int → Int → Int → Int → ByteArray → Option (Bool)
 | 0, _, _, _, _, _, _, _, _, _, _ => none
 | k + 1, a9, a2, a3, a4, a5, a0, a1, a6, a7, a8 => if a9 = true then (some false) else (if a0 = 2 then (Fd.j3 k (decide (a1 < 1)) a2 a3 a4 a5 a0 a1 a6 a7 a8) else (if a0 = 3 then (Fd.j3 k (decide (a1 < 1)) a2 a3 a4 a5 a0 a1 a6 a7 a8) else (Fd.j3 k false a2 a3 a4 a5 a0 a1 a6 a7 a8)))
def Fd.j3 : Nat → Bool → List Int → Int → Int → Int → Int → Int → Int → Int → ByteArray → Option (Bool)
 | 0, _, _, _, _, _, _, _, _, _, _ => none
 | k + 1, a9, a4, a2, a5, a6, a0, a3, a1, a7, a8 => if a9 = true then (some false) else (if a0 = 4 then (if a3 = a2 then (if a1 = 0 then (some true) else (if a0 = 1 then (some true) else (some (a0 == 2)))) else (some false)) else (if a1 = 0 then (some true) else (if a0 = 1 then (some true) else (some (a0 == 2)))))
end
def Fd.f (k : Nat) (a8 : List Int) (a1 : Int) (a6 : Int) (a7 : Int) (a2 : Int) (a0 : Int) (a3 : Int) (a4 : Int) (a5 : ByteArray) : Option (Bool) := (Fk.f k a2 a0 a3 a4 a5).bind fun a9 => (if a9 = true then (Fd.j0 k (decide (a0 > a1)) a8 a1 a6 a7 a2 a0 a3 a4 a5) else (Fd.j0 k true a8 a1 a6 a7 a2 a0 a3 a4 a5))
set_option maxHeartbeats 8000000 in
set_option maxRecDepth 100000 in
theorem Fd.calls (k : Nat) (b8 : Option Addr) (b9 : Nat) (a9 : List Int) (a8 : Int) (b0 : Int) (b1 : Int) (a3 : Int) (a4 : Int) (a5 : Int) (a6 : Int) (a7 : ByteArray) (r : Bool) (w : World) (d3 : Kd.C (Kd.int .i64) w b8 a9.length a9) (d2 : a9.length ≤ b9) (h : Fd.f k a9 a8 b0 b1 a3 a4 a5 a6 a7 = some r) :
  Calls Try.prog 40 #[.agg #[.slice b8 a9.length b9, .int .i64 a8, .int .i64 b0, .int .i64 b1], .agg #[.int .i64 a3, .int .i64 a4, .int .i64 a5, .int .i64 a6, .string a7]] w fun e w' => e = .returned (.bool r) ∧ Below w.heap.size w w' := by
 have m9 := Try.underlying49
 have n0 := Try.underlying51
 have l0 := am d3
 have k9 := am d2
 clear d3 d2
 have HB := am (Below.refl w.heap.size w)
 unfold Fd.f at h
 have H := h
 clear h
 have k1 := am H
 clear H
 go_enter Try.func40, Try.ntmps40
 go_upto_region 1 with (first | ((with_reducible refine gD 2 ?_); refine bz 2 #[.slice b8 a9.length b9, .int .i64 a8, .int .i64 b0, .int .i64 b1] 49 HB ?_; clear HB; intro c6 hg w4 hb a2 k7 HB; clear hb hg) | ((with_reducible refine gD 3 ?_); refine bz 3 #[.int .i64 a3, .int .i64 a4, .int .i64 a5, .int .i64 a6, .string a7] 51 HB ?_; clear HB; intro c8 hg w5 hb a1 k8 HB; have d9 := nL hg a2; have a0 := nG hg a2; replace a2 := kB a2 hb; clear hb hg))
 (try simp only [Act.put, List.setIfInBounds_toArray, List.set_cons_zero, List.set_cons_succ])
 go_cut [14] (fun n3 wc => ∃ (kq : Nat) (c9 : Bool), n3 = .bool c9 ∧ q0e (Fd.j0 kq c9 a9 a8 b0 b1 a3 a4 a5 a6 a7 = some r) ∧ q0e (kq ≤ k) ∧ q0e (wc.heap[c6]? = some (.cells #[(.slice b8 a9.length b9), .int .i64 a8, .int .i64 b0, .int .i64 b1] 49 (0, 0))) ∧ q0e (wc.heap[c8]? = some (.cells #[.int .i64 a3, .int .i64 a4, .int .i64 a5, .int .i64 a6, .string a7] 51 (0, 0))) ∧ q0e (Below w.heap.size w wc))
 case first =>
  have H := k1.out
  clear k1
  replace H := Option.bind_eq_some_iff.mp H
  obtain ⟨k5, k6, H⟩ := H
  try dsimp only at H
  have A6 := am k6
  clear k6
  by_cases c7 : k5 = true
  ·
   subst c7
   rw [if_pos rfl] at H
   try dsimp only at H
   have H' := am H
   clear H
   have m8 := nn a0
   have k2 := y5 a1
   go_wp2_with (first | ((with_reducible refine gC 77 ?_); refine gL 6 Try.func77 #[.agg #[.int .i64 a3, .int .i64 a4, .int .i64 a5, .int .i64 a6, .string a7]] ?_; (with_reducible refine (Fk.calls k a3 a4 a5 a6 a7 true _ A6.out).mono ?_); rintro e n7 ⟨rfl, hb⟩; refine ⟨_, rfl, ?_⟩; replace a2 := kB a2 hb; replace a1 := kB a1 hb; replace HB := bS HB hb; (try clear hb); have h4 := y5 a1; have h5 := y4 a2))
   go_meet
   case rel => exact ⟨_, (decide (a4 > a8)), el, H', ol, ⟨pk a2.out⟩, ⟨pk a1.out⟩, ⟨pB HB.out⟩⟩
  replace c7 := Bool.eq_false_iff.mpr c7
  subst c7
  rw [if_neg (show ¬ (false = true) by decide)] at H
  try dsimp only at H
  have H' := am H
  clear H
  have l1 := nn a0
  have h6 := y5 a1
  go_wp2_with (first | ((with_reducible refine gC 77 ?_); refine gL 6 Try.func77 #[.agg #[.int .i64 a3, .int .i64 a4, .int .i64 a5, .int .i64 a6, .string a7]] ?_; (with_reducible refine (Fk.calls k a3 a4 a5 a6 a7 false _ A6.out).mono ?_); rintro e n8 ⟨rfl, hb⟩; refine ⟨_, rfl, ?_⟩; replace a2 := kB a2 hb; replace a1 := kB a1 hb; replace HB := bS HB hb; (try clear hb)))
  go_meet
  case rel => exact ⟨_, (true), el, H', ol, ⟨pk a2.out⟩, ⟨pk a1.out⟩, ⟨pB HB.out⟩⟩
 case rest =>
  clear k1
  obtain ⟨kq, c9, rfl, HA, d1, a2, a1, HB⟩ := hcut
  cases kq with
  | zero => exact absurd HA.out (by simp [Fd.j0])
  | succ n1 =>
   have H := HA.out
   clear HA
   simp only [Fd.j0] at H
   by_cases d8 : c9 = true
   ·
    subst d8
    rw [if_pos rfl] at H
    try dsimp only at H
    obtain rfl := Option.some.inj H
    go_wp2
    go_ret
    exact ⟨er, pB HB.out⟩
   replace d8 := Bool.eq_false_iff.mpr d8
   subst d8
   rw [if_neg (show ¬ (false = true) by decide)] at H
   try dsimp only at H
   have d4 := am H
   clear H
   go_upto_region 3 with (fail)
   go_cut [27] (fun n4 wc => ∃ (kq : Nat) (b2 : Bool), n4 = .bool b2 ∧ q0e (Fd.j1 kq b2 a9 a8 b0 b1 a3 a4 a5 a6 a7 = some r) ∧ q0e (kq ≤ n1) ∧ q0e (wc.heap[c6]? = some (.cells #[(.slice b8 a9.length b9), .int .i64 a8, .int .i64 b0, .int .i64 b1] 49 (0, 0))) ∧ q0e (wc.heap[c8]? = some (.cells #[.int .i64 a3, .int .i64 a4, .int .i64 a5, .int .i64 a6, .string a7] 51 (0, 0))) ∧ q0e (Below w.heap.size w wc))
   case first =>
    have H := d4.out
    clear d4
    by_cases e1 : a3 = 0
    ·
     rw [if_pos e1] at H
     obtain ⟨b5, e2⟩ := qt e1
     clear e1
     (first | rw [b5] | (simp only [q1u, q1v]; rw [b5]) | skip)
     by_cases e3 : a4 = 0
     ·
      rw [if_pos e3] at H
      obtain ⟨e4, e5⟩ := qt e3
      clear e3
      have H' := am H
      clear H
      have l2 := nn a0
      have h7 := y5 a1
      go_wp2
      go_meet
      case rel => exact ⟨_, ((a5 != 0)), el, H', ⟨by have := d1.out; first | omega | exact Nat.le_refl _⟩, ⟨pk a2.out⟩, ⟨pk a1.out⟩, ⟨pB HB.out⟩⟩
     rw [if_neg e3] at H
     obtain ⟨e4, e5⟩ := qf e3
     have H' := am H
     clear H
     have l3 := nn a0
     have h8 := y5 a1
     go_wp2
     go_meet
     case rel => exact ⟨_, (true), el, H', ⟨by have := d1.out; first | omega | exact Nat.le_refl _⟩, ⟨pk a2.out⟩, ⟨pk a1.out⟩, ⟨pB HB.out⟩⟩
    rw [if_neg e1] at H
    obtain ⟨b5, e2⟩ := qf e1
    (first | rw [b5] | (simp only [q1u, q1v]; rw [b5]) | skip)
    have H' := am H
    clear H
    have l4 := nn a0
    have h9 := y5 a1
    go_wp2
    go_meet
    case rel => exact ⟨_, (false), el, H', ⟨by have := d1.out; first | omega | exact Nat.le_refl _⟩, ⟨pk a2.out⟩, ⟨pk a1.out⟩, ⟨pB HB.out⟩⟩
   case rest =>
    clear d4
    try clear d8
    obtain ⟨kq, b2, rfl, HA, d0, a2, a1, HB⟩ := hcut
    cases kq with
    | zero => exact absurd HA.out (by simp [Fd.j1])
    | succ k3 =>
     have H := HA.out
     clear HA
     simp only [Fd.j1] at H
     by_cases e0 : b2 = true
     ·
      subst e0
      rw [if_pos rfl] at H
      try dsimp only at H
      obtain rfl := Option.some.inj H
      go_wp2
      go_ret
      exact ⟨er, pB HB.out⟩
     replace e0 := Bool.eq_false_iff.mpr e0
     subst e0
     rw [if_neg (show ¬ (false = true) by decide)] at H
     try dsimp only at H
     have d5 := am H
     clear H
     go_upto_region 5 with (fail)
     go_cut [37] (fun n5 wc => ∃ (kq : Nat) (b3 : Bool), n5 = .bool b3 ∧ q0e (Fd.j2 kq b3 a9 a8 b0 b1 a3 a4 a5 a6 a7 = some r) ∧ q0e (kq ≤ k3) ∧ q0e (wc.heap[c6]? = some (.cells #[(.slice b8 a9.length b9), .int .i64 a8, .int .i64 b0, .int .i64 b1] 49 (0, 0))) ∧ q0e (wc.heap[c8]? = some (.cells #[.int .i64 a3, .int .i64 a4, .int .i64 a5, .int .i64 a6, .string a7] 51 (0, 0))) ∧ q0e (Below w.heap.size w wc))
     case first =>
      have H := d5.out
      clear d5
      by_cases e6 : a3 = 1
      ·
       rw [if_pos e6] at H
       obtain ⟨b6, e7⟩ := qt e6
       clear e6
       (first | rw [b6] | (simp only [q1u, q1v]; rw [b6]) | skip)
       have H' := am H
       clear H
       have l5 := nn a0
       have i0 := y5 a1
       have i1 := y4 a2
       go_wp2
       go_meet
       case rel => exact ⟨_, (decide (a4 ≥ a8)), el, H', ⟨by have := d1.out; have := d0.out; first | omega | exact Nat.le_refl _⟩, ⟨pk a2.out⟩, ⟨pk a1.out⟩, ⟨pB HB.out⟩⟩
      rw [if_neg e6] at H
      obtain ⟨b6, e7⟩ := qf e6
      (first | rw [b6] | (simp only [q1u, q1v]; rw [b6]) | skip)
      have H' := am H
      clear H
      have l6 := nn a0
      have i2 := y5 a1
      go_wp2
      go_meet
      case rel => exact ⟨_, (false), el, H', ⟨by have := d1.out; have := d0.out; first | omega | exact Nat.le_refl _⟩, ⟨pk a2.out⟩, ⟨pk a1.out⟩, ⟨pB HB.out⟩⟩
     case rest =>
      clear d5
      try clear d8
      try clear e0
      obtain ⟨kq, b3, rfl, HA, d7, a2, a1, HB⟩ := hcut
      cases kq with
      | zero => exact absurd HA.out (by simp [Fd.j2])
      | succ k4 =>
       have H := HA.out
       clear HA
       simp only [Fd.j2] at H
       by_cases e8 : b3 = true
       ·
        subst e8
        rw [if_pos rfl] at H
        try dsimp only at H
        obtain rfl := Option.some.inj H
        go_wp2
        go_ret
        exact ⟨er, pB HB.out⟩
       replace e8 := Bool.eq_false_iff.mpr e8
       subst e8
       rw [if_neg (show ¬ (false = true) by decide)] at H
       try dsimp only at H
       have d6 := am H
       clear H
       go_upto_region 7 with (fail)
       go_cut [50] (fun n6 wc => ∃ (kq : Nat) (b4 : Bool), n6 = .bool b4 ∧ q0e (Fd.j3 kq b4 a9 a8 b0 b1 a3 a4 a5 a6 a7 = some r) ∧ q0e (kq ≤ k4) ∧ q0e (wc.heap[c6]? = some (.cells #[(.slice b8 a9.length b9), .int .i64 a8, .int .i64 b0, .int .i64 b1] 49 (0, 0))) ∧ q0e (wc.heap[c8]? = some (.cells #[.int .i64 a3, .int .i64 a4, .int .i64 a5, .int .i64 a6, .string a7] 51 (0, 0))) ∧ q0e (Below w.heap.size w wc))
       case first =>
        have H := d6.out
        clear d6
        by_cases e9 : a3 = 2
        ·
         rw [if_pos e9] at H
         obtain ⟨b7, f0⟩ := qt e9
         clear e9
         (first | rw [b7] | (simp only [q1u, q1v]; rw [b7]) | skip)
         have H' := am H
         clear H
         have l7 := nn a0
         have i3 := y5 a1
         go_wp2
         go_meet
         case rel => exact ⟨_, (decide (a4 < 1)), el, H', ⟨by have := d1.out; have := d0.out; have := d7.out; first | omega | exact Nat.le_refl _⟩, ⟨pk a2.out⟩, ⟨pk a1.out⟩, ⟨pB HB.out⟩⟩
        rw [if_neg e9] at H
        obtain ⟨b7, f0⟩ := qf e9
        (first | rw [b7] | (simp only [q1u, q1v]; rw [b7]) | skip)
        by_cases f1 : a3 = 3
        ·
         rw [if_pos f1] at H
         obtain ⟨f2, f3⟩ := qt f1
         clear f1
         have H' := am H
         clear H
         have l8 := nn a0
         have i4 := y5 a1
         go_wp2
         go_meet
         case rel => exact ⟨_, (decide (a4 < 1)), el, H', ⟨by have := d1.out; have := d0.out; have := d7.out; first | omega | exact Nat.le_refl _⟩, ⟨pk a2.out⟩, ⟨pk a1.out⟩, ⟨pB HB.out⟩⟩
        rw [if_neg f1] at H
        obtain ⟨f2, f3⟩ := qf f1
        have H' := am H
        clear H
        have l9 := nn a0
        have i5 := y5 a1
        go_wp2
        go_meet
        case rel => exact ⟨_, (false), el, H', ⟨by have := d1.out; have := d0.out; have := d7.out; first | omega | exact Nat.le_refl _⟩, ⟨pk a2.out⟩, ⟨pk a1.out⟩, ⟨pB HB.out⟩⟩
       case rest =>
        clear d6
        try clear d8
        try clear e0
        try clear e8
        obtain ⟨kq, b4, rfl, HA, m7, a2, a1, HB⟩ := hcut
        cases kq with
        | zero => exact absurd HA.out (by simp [Fd.j3])
        | succ n2 =>
         have H := HA.out
         clear HA
         simp only [Fd.j3] at H
         by_cases h3 : b4 = true
         ·
          subst h3
          rw [if_pos rfl] at H
          try dsimp only at H
          obtain rfl := Option.some.inj H
          go_wp2
          go_ret
          exact ⟨er, pB HB.out⟩
         replace h3 := Bool.eq_false_iff.mpr h3
         subst h3
         rw [if_neg (show ¬ (false = true) by decide)] at H
         try dsimp only at H
         by_cases f4 : a3 = 4
         ·
          rw [if_pos f4] at H
          obtain ⟨f5, f6⟩ := qt f4
          clear f4
          by_cases f7 : a4 = a8
          ·
           rw [if_pos f7] at H
           obtain ⟨f8, f9⟩ := qt f7
           clear f7
           by_cases g0 : a5 = 0
           ·
            rw [if_pos g0] at H
            obtain ⟨g1, g2⟩ := qt g0
            clear g0
            obtain rfl := Option.some.inj H
            have m0 := nn a0
            have i6 := y5 a1
            have i7 := y4 a2
            go_wp2
            go_ret
            exact ⟨er, pB HB.out⟩
           rw [if_neg g0] at H
           obtain ⟨g1, g2⟩ := qf g0
           by_cases g3 : a3 = 1
           ·
            rw [if_pos g3] at H
            obtain ⟨g4, g5⟩ := qt g3
            clear g3
            obtain rfl := Option.some.inj H
            have m1 := nn a0
            have i8 := y5 a1
            have i9 := y4 a2
            go_wp2
            go_ret
            exact ⟨er, pB HB.out⟩
           rw [if_neg g3] at H
           obtain ⟨g4, g5⟩ := qf g3
           obtain rfl := Option.some.inj H
           have m2 := nn a0
           have j4 := y5 a1
           have j5 := y4 a2
           go_wp2
           go_ret
           exact ⟨er, pB HB.out⟩
          rw [if_neg f7] at H
          obtain ⟨f8, f9⟩ := qf f7
          obtain rfl := Option.some.inj H
          have m3 := nn a0
          have j6 := y5 a1
          have j7 := y4 a2
          go_wp2
          go_ret
          exact ⟨er, pB HB.out⟩
         rw [if_neg f4] at H
         obtain ⟨f5, f6⟩ := qf f4
         by_cases g6 : a5 = 0
         ·
          rw [if_pos g6] at H
          obtain ⟨g7, g8⟩ := qt g6
          clear g6
          obtain rfl := Option.some.inj H
          have m4 := nn a0
          have j8 := y5 a1
          go_wp2
          go_ret
          exact ⟨er, pB HB.out⟩
         rw [if_neg g6] at H
         obtain ⟨g7, g8⟩ := qf g6
         by_cases g9 : a3 = 1
         ·
          rw [if_pos g9] at H
          obtain ⟨h0, h2⟩ := qt g9
          clear g9
          obtain rfl := Option.some.inj H
          have m5 := nn a0
          have j9 := y5 a1
          go_wp2
          go_ret
          exact ⟨er, pB HB.out⟩
         rw [if_neg g9] at H
         obtain ⟨h0, h2⟩ := qf g9
         obtain rfl := Option.some.inj H
         have m6 := nn a0
         have k0 := y5 a1
         go_wp2
         go_ret
         exact ⟨er, pB HB.out⟩
mutual
def Fa.j0 : Nat → Bool → ByteArray → ByteArray → List (S49) → Int → List (S51) → Option (Bool)
 | 0, _, _, _, _, _, _ => none
 | k + 1, a5, a1, a2, a3, a4, a0 => if a5 = true then (some false) else (Fa.l0 k a0 (a0.length : Int) 0 a1 a2 a3 a4 a0)
def Fa.l0 : Nat → List (S51) → Int → Int → ByteArray → ByteArray → List (S49) → Int → List (S51) → Option (Bool)
 | 0, _, _, _, _, _, _, _, _ => none
 | k + 1, a2, a8, a1, a3, a4, a0, a5, a6 => if a1 < a8 then (if 0 ≤ a1 then (if a1 < (a2.length : Int) then (if a1 < (a0.length : Int) then ((Fd.f k ((q0d a0 a1).f0) ((q0d a0 a1).f1) ((q0d a0 a1).f2) ((q0d a0 a1).f3) ((q0a a2 a1).f0) ((q0a a2 a1).f1) ((q0a a2 a1).f2) ((q0a a2 a1).f3) ((q0a a2 a1).f4)).bind fun a7 => (if a7 = true then (Fa.l1 k a1 0 a2 a8 a1 a3 a4 a0 a5 a6 ((q0a a2 a1).f0) ((q0a a2 a1).f1) ((q0a a2 a1).f2) ((q0a a2 a1).f3) ((q0a a2 a1).f4)) else (some false))) else (none)) else (none)) else (none)) else (some true)
def Fa.l1 : Nat → Int → Int → List (S51) → Int → Int → ByteArray → ByteArray → List (S49) → Int → List (S51) → Int → Int → Int → Int → ByteArray → Option (Bool)
 | 0, _, _, _, _, _, _, _, _, _, _, _, _, _, _, _ => none
 | k + 1, x3, x5, b0, b1, b2, a2, a3, a4, a5, a0, a6, a7, a8, a1, a9 => if x5 < x3 then (if a1 > 0 then (if 0 ≤ x5 then (if x5 < (a0.length : Int) then (if ((q0a a0 x5).f3) = a1 then (some false) else (Fa.l1 k x3 (wrap64 (x5 + 1)) b0 b1 b2 a2 a3 a4 a5 a0 a6 a7 a8 a1 a9)) else (none)) else (none)) else (Fa.l1 k x3 (wrap64 (x5 + 1)) b0 b1 b2 a2 a3 a4 a5 a0 a6 a7 a8 a1 a9)) else (if a6 = 0 then ((Fo.f k a2 a3 a4 a5 a0 x3).bind fun b3 => (Fa.j3 k x3 b0 b1 b2 b3 a2 a3 a4 a5 a0 a6 a7 a8 a1 a9)) else (Fa.j3 k x3 b0 b1 b2 false a2 a3 a4 a5 a0 a6 a7 a8 a1 a9))
def Fa.j3 : Nat → Int → List (S51) → Int → Int → Bool → ByteArray → ByteArray → List (S49) → Int → List (S51) → Int → Int → Int → Int → ByteArray → Option (Bool)
 | 0, _, _, _, _, _, _, _, _, _, _, _, _, _, _, _ => none
 | k + 1, x3, b1, b2, b3, b4, a0, a1, a2, a3, a4, a5, a6, a7, a8, a9 => if b4 = true then (some false) else (if a5 = 0 then (Fa.l0 k b1 b2 (wrap64 (b3 + 1)) a0 a1 a2 a3 a4) else (if a5 = 5 then (Fa.l0 k b1 b2 (wrap64 (b3 + 1)) a0 a1 a2 a3 a4) else ((Fo.f k a0 a1 a2 a3 a4 x3).bind fun b0 => (if b0 = true then (Fa.l0 k b1 b2 (wrap64 (b3 + 1)) a0 a1 a2 a3 a4) else (some false)))))
end
def Fa.f (k : Nat) (a0 : ByteArray) (a2 : ByteArray) (a1 : List (S49)) (a4 : Int) (a3 : List (S51)) : Option (Bool) := if (a0.size : Int) < 1 then (Fa.j0 k true a0 a2 a1 a4 a3) else (if (a0.size : Int) > 16 then (Fa.j0 k true a0 a2 a1 a4 a3) else ((Fr.f k a2 a1).bind fun a5 => (if a5 = 0 then (if (a3.length : Int) = (a1.length : Int) then ((F0.f k a0 a2 a1 a4 a3).bind fun a6 => (Fa.j0 k (!a6) a0 a2 a1 a4 a3)) else (Fa.j0 k true a0 a2 a1 a4 a3)) else (Fa.j0 k true a0 a2 a1 a4 a3))))
def Fa.T6 : Bool × List (List Nat × List Nat) := (true, [([], []), ([0], [0]), ([1], [1]), ([], []), ([2, 3], [2, 3]), ([4], [4]), ([], []), ([5, 6], [5, 6]), ([7], [7])])
def Fa.B6 : List Nat := [0, 1, 3, 0, 15, 31, 0, 127, 255]
theorem Fa.tab6 : rtab .any (opsOf Try.f15 6) = Fa.T6 := by kernel_rfl
theorem Fa.bits6 : q3h Fa.T6.2 Fa.B6 = true := by kernel_rfl
def Fa.T11 : Bool × List (List Nat × List Nat) := (true, [([], []), ([0], [0]), ([1], [1]), ([2], [2]), ([3], [3]), ([4, 3], [3, 4]), ([3], [3]), ([5, 6, 3], [3, 5, 6]), ([7, 3], [3, 7]), ([8, 3], [3, 8]), ([3], [3]), ([10, 3], [3, 10]), ([9, 11, 3], [3, 9, 11]), ([3, 12], [3, 12])])
def Fa.B11 : List Nat := [0, 1, 3, 7, 15, 31, 15, 127, 255, 511, 15, 1039, 4095, 8191]
theorem Fa.tab11 : rtab .any (opsOf Try.f15 11) = Fa.T11 := by kernel_rfl
theorem Fa.bits11 : q3h Fa.T11.2 Fa.B11 = true := by kernel_rfl
set_option maxHeartbeats 8000000 in
set_option maxRecDepth 100000 in
theorem Fa.calls (k : Nat) (b7 : ByteArray) (d5 : ByteArray) (i2 : Option Addr) (f9 : Nat) (a5 : List (S49)) (d6 : Int) (i3 : Option Addr) (g0 : Nat) (a2 : List (S51)) (r : Bool) (w : World) (j5 : Kd.C k49 w i2 a5.length a5) (j2 : a5.length ≤ f9) (j6 : Kd.C k51 w i3 a2.length a2) (j4 : a2.length ≤ g0) (h : Fa.f k b7 d5 a5 d6 a2 = some r) :
  Calls Try.prog 15 #[.agg #[.string b7, .string d5, .slice i2 a5.length f9, .int .i64 d6, .slice i3 a2.length g0]] w fun e w' => e = .returned (.bool r) ∧ Below w.heap.size w w' := by
 have s8 := Try.underlying27
 have s7 := Try.underlying24
 have t0 := Try.underlying51
 have s9 := Try.underlying49
 have e2 := am j5
 have f8 := am j2
 clear j5 j2
 have f6 := am j6
 have h4 := am j4
 clear j6 j4
 have HB := am (Below.refl w.heap.size w)
 unfold Fa.f at h
 have H := h
 clear h
 have q0 := am H
 clear H
 go_enter Try.func15, Try.ntmps15
 go_upto_region 1 with (first | ((with_reducible refine gD 1 ?_); (try (refine q1g (by rfl) ?_; dsimp only)); refine bz 1 #[.string b7, .string d5, .slice i2 a5.length f9, .int .i64 d6, .slice i3 a2.length g0] 27 HB ?_; clear HB; intro a9 hg w3 hb a1 r3 HB; clear hb hg))
 (try simp only [Act.put, List.setIfInBounds_toArray, List.set_cons_zero, List.set_cons_succ])
 go_cut [36] (fun t1 wc => ∃ (kq : Nat) (h6 : Bool), t1 = .bool h6 ∧ q0e (Fa.j0 kq h6 b7 d5 a5 d6 a2 = some r) ∧ q0e (kq ≤ k) ∧ q0e (wc.heap[a9]? = some (.cells #[.string b7, .string d5, (.slice i2 a5.length f9), .int .i64 d6, (.slice i3 a2.length g0)] 27 (0, 0))) ∧ q0e (Below w.heap.size w wc))
 case first =>
  have H := q0.out
  clear q0
  by_cases c4 : (b7.size : Int) < 1
  ·
   rw [if_pos c4] at H
   have i5 := decide_eq_true c4
   have q1 : decide (b7.size < 1) = true := decide_eq_true (by omega)
   clear c4
   (first | rw [i5] | (simp only [q1u, q1v]; rw [i5]) | skip)
   have H' := am H
   clear H
   have q6 := y5 a1
   go_wp2
   go_meet
   case rel => exact ⟨_, (true), el, H', ol, ⟨pk a1.out⟩, ⟨pB HB.out⟩⟩
  rw [if_neg c4] at H
  have i5 := decide_eq_false c4
  have q1 : decide (b7.size < 1) = false := decide_eq_false (by omega)
  clear c4
  (first | rw [i5] | (simp only [q1u, q1v]; rw [i5]) | skip)
  by_cases c6 : (b7.size : Int) > 16
  ·
   rw [if_pos c6] at H
   have q2 := decide_eq_true c6
   have q3 : decide (16 < b7.size) = true := decide_eq_true (by omega)
   clear c6
   have H' := am H
   clear H
   have q7 := y5 a1
   go_wp2
   go_meet
   case rel => exact ⟨_, (true), el, H', ol, ⟨pk a1.out⟩, ⟨pB HB.out⟩⟩
  rw [if_neg c6] at H
  have q2 := decide_eq_false c6
  have q3 : decide (16 < b7.size) = false := decide_eq_false (by omega)
  clear c6
  replace H := Option.bind_eq_some_iff.mp H
  obtain ⟨i8, r2, H⟩ := H
  try dsimp only at H
  have A8 := am r2
  clear r2
  by_cases c9 : i8 = 0
  ·
   rw [if_pos c9] at H
   obtain ⟨q4, q5⟩ := qt c9
   clear c9
   by_cases i7 : (a2.length : Int) = (a5.length : Int)
   ·
    rw [if_pos i7] at H
    obtain ⟨l4, l5⟩ := qt i7
    have l6 : (a2.length == a5.length) = true := by first | simpa using i7 | (simp at i7 ⊢; omega)
    clear i7
    replace H := Option.bind_eq_some_iff.mp H
    obtain ⟨n9, k7, H⟩ := H
    try dsimp only at H
    have s5 := am k7
    clear k7
    have H' := am H
    clear H
    have o5 := y5 a1
    go_wp2_with (first | (go_at_call 11; (with_reducible refine (Fr.calls k d5 _ _ a5 i8 _ ?side1 ?side2 A8.out).mono ?_); (case side1 => exact (Kd.C_below e2.out (pB HB.out))); (case side2 => exact f8.out); rintro e t6 ⟨rfl, hb⟩; replace a1 := kB a1 hb; replace HB := bS HB hb; (try clear hb); have o6 := y5 a1) | (go_at_call 39; (with_reducible refine (F0.calls k b7 d5 _ _ a5 d6 _ _ a2 n9 _ ?side1 ?side2 ?side3 ?side4 s5.out).mono ?_); (case side1 => exact (Kd.C_below e2.out (pB HB.out))); (case side2 => exact f8.out); (case side3 => exact (Kd.C_below f6.out (pB HB.out))); (case side4 => exact h4.out); rintro e t7 ⟨rfl, hb⟩; replace a1 := kB a1 hb; replace HB := bS HB hb; (try clear hb)))
    go_meet
    case rel => exact ⟨_, (!n9), el, H', ol, ⟨pk a1.out⟩, ⟨pB HB.out⟩⟩
   rw [if_neg i7] at H
   obtain ⟨l4, l5⟩ := qf i7
   have l6 : (a2.length == a5.length) = false := by first | simpa using i7 | (simp at i7 ⊢; omega)
   have H' := am H
   clear H
   have o7 := y5 a1
   go_wp2_with (first | (go_at_call 11; (with_reducible refine (Fr.calls k d5 _ _ a5 i8 _ ?side1 ?side2 A8.out).mono ?_); (case side1 => exact (Kd.C_below e2.out (pB HB.out))); (case side2 => exact f8.out); rintro e t8 ⟨rfl, hb⟩; replace a1 := kB a1 hb; replace HB := bS HB hb; (try clear hb); have o8 := y5 a1))
   go_meet
   case rel => exact ⟨_, (true), el, H', ol, ⟨pk a1.out⟩, ⟨pB HB.out⟩⟩
  rw [if_neg c9] at H
  obtain ⟨q4, q5⟩ := qf c9
  have H' := am H
  clear H
  have o9 := y5 a1
  go_wp2_with (first | (go_at_call 11; (with_reducible refine (Fr.calls k d5 _ _ a5 i8 _ ?side1 ?side2 A8.out).mono ?_); (case side1 => exact (Kd.C_below e2.out (pB HB.out))); (case side2 => exact f8.out); rintro e t9 ⟨rfl, hb⟩; replace a1 := kB a1 hb; replace HB := bS HB hb; (try clear hb)))
  go_meet
  case rel => exact ⟨_, (true), el, H', ol, ⟨pk a1.out⟩, ⟨pB HB.out⟩⟩
 case rest =>
  clear q0
  obtain ⟨kq, h6, rfl, HA, h9, a1, HB⟩ := hcut
  cases kq with
  | zero => exact absurd HA.out (by simp [Fa.j0])
  | succ s4 =>
   have H := HA.out
   clear HA
   simp only [Fa.j0] at H
   by_cases k5 : h6 = true
   ·
    subst k5
    rw [if_pos rfl] at H
    try dsimp only at H
    obtain rfl := Option.some.inj H
    go_wp2
    go_ret
    exact ⟨er, pB HB.out⟩
   replace k5 := Bool.eq_false_iff.mpr k5
   subst k5
   rw [if_neg (show ¬ (false = true) by decide)] at H
   try dsimp only at H
   have H' := am H
   clear H
   have g4 := y5 a1
   go_wp2
   go_loopg [40] s4 (fun kq t2 w' => ∃ (a0 : Int), t2 = .int .i64 a0 ∧ q0e (Fa.l0 kq a2 (a2.length : Int) a0 b7 d5 a5 d6 a2 = some r) ∧ q0e (kq ≤ s4) ∧ q0e (w'.heap[a9]? = some (.cells #[.string b7, .string d5, (.slice i2 a5.length f9), .int .i64 d6, (.slice i3 a2.length g0)] 27 (0, 0))) ∧ q0e (Below w.heap.size w w'))
   case atStart => exact ⟨(0), el, H', ⟨Nat.le_refl _⟩, ⟨pk a1.out⟩, ⟨pB HB.out⟩⟩
   case round =>
    clear H'
    try clear k5
    try clear g4
    try clear a1; try clear HB
    obtain ⟨a0, rfl, HA, i0, a1, HB⟩ := hrel
    cases gk with
    | zero => exact absurd HA.out (by simp [Fa.l0])
    | succ k2 =>
     have H := HA.out
     clear HA
     simp only [Fa.l0] at H
     by_cases j8 : a0 < (a2.length : Int)
     ·
      rw [if_pos j8] at H
      have i9 := decide_eq_true j8
      clear j8
      by_cases l7 : 0 ≤ a0
      ·
       rw [if_pos l7] at H
       have l8 := decide_eq_true l7
       clear l7
       by_cases l9 : a0 < (a2.length : Int)
       ·
        rw [if_pos l9] at H
        have m0 := decide_eq_true l9
        clear l9
        by_cases m1 : a0 < (a5.length : Int)
        ·
         rw [if_pos m1] at H
         have m2 := decide_eq_true m1
         clear m1
         replace H := Option.bind_eq_some_iff.mp H
         obtain ⟨q8, k8, H⟩ := H
         try dsimp only at H
         have r0 := am k8
         clear k8
         by_cases m3 : q8 = true
         ·
          subst m3
          rw [if_pos rfl] at H
          try dsimp only at H
          have H' := am H
          clear H
          have g5 : 0 ≤ (a0 : Int) := od
          have g7 : a0 < (a2.length : Int) := od
          obtain ⟨a7, k0, d7, d8, d9, e0, e1⟩ := q1j f6.out a0 g5 g7
          cases k0
          replace d7 := bX HB d7
          replace d8 := bX HB d8
          replace d9 := bX HB d9
          replace e0 := bX HB e0
          replace e1 := bX HB e1
          replace g5 := eq_true g5
          replace g7 := eq_true g7
          try go_wp2_with (first | ((with_reducible refine gD 4 ?_); (try (refine q1g (by rfl) ?_; dsimp only)); refine bz 4 #[.int .i64 0, .int .i64 0, .int .i64 0, .int .i64 0, .string (⟨#[]⟩ : ByteArray)] 51 HB ?_; clear HB; intro a4 hg t4 hb a3 l3 HB; have h8 := nL hg a1; have b1 := nG hg a1; replace a1 := kB a1 hb; clear hb hg; have r6 := nn b1; have h5 := y5 a3))
          obtain ⟨w32, hw⟩ : ∃ x, x = (((((t4.setCell ⟨a4, 0, none⟩ (.int .i64 ((q0a a2 a0).f0))).setCell ⟨a4, 1, none⟩ (.int .i64 ((q0a a2 a0).f1))).setCell ⟨a4, 2, none⟩ (.int .i64 ((q0a a2 a0).f2))).setCell ⟨a4, 3, none⟩ (.int .i64 ((q0a a2 a0).f3))).setCell ⟨a4, 4, none⟩ (.string ((q0a a2 a0).f4))) := ⟨_, rfl⟩
          have n6 := kW hw a1
          have n7 := pW (cs' := #[.int .i64 ((q0a a2 a0).f0), .int .i64 ((q0a a2 a0).f1), .int .i64 ((q0a a2 a0).f2), .int .i64 ((q0a a2 a0).f3), .string ((q0a a2 a0).f4)]) hw a3
          have n8 := bW hw HB
          (try clear a1)
          (try clear a3)
          (try clear HB)
          rw [← hw]
          clear hw
          have a1 := n6
          have a3 := n7
          have HB := n8
          clear n6 n7 n8
          replace a1 := am (q0g a1.out)
          replace a3 := am (q0g a3.out)
          replace HB := am (q0b HB.out)
          have g6 : 0 ≤ (a0 : Int) := od
          have g8 : a0 < (a5.length : Int) := od
          obtain ⟨b2, f7, g1, k1, b3, b4, b5, b6, e5, e4⟩ := q1s e2.out a0 g6 g8
          have c8 := b6
          have c7 := b5
          have b9 := b4
          have b8 := b3
          cases k1
          replace b3 := bX HB b3
          replace b4 := bX HB b4
          replace b5 := bX HB b5
          replace b6 := bX HB b6
          have e3 := am e4
          have g2 := am e5
          clear e4 e5
          replace g6 := eq_true g6
          replace g8 := eq_true g8
          refine q2a (n := 9) (S := fun w' => w'.cell? ⟨a9, 0, none⟩ = some (.string b7) ∧ w'.cell? ⟨a9, 1, none⟩ = some (.string d5) ∧ w'.cell? ⟨a9, 2, none⟩ = some (.slice (some b2) a5.length f9) ∧ w'.cell? ⟨a9, 3, none⟩ = some (.int .i64 d6) ∧ w'.cell? ⟨a9, 4, none⟩ = some (.slice (some a7) a2.length g0) ∧ w'.cell? ⟨a4, 0, none⟩ = some (.int .i64 ((q0a a2 a0).f0)) ∧ w'.cell? ⟨a4, 1, none⟩ = some (.int .i64 ((q0a a2 a0).f1)) ∧ w'.cell? ⟨a4, 2, none⟩ = some (.int .i64 ((q0a a2 a0).f2)) ∧ w'.cell? ⟨a4, 3, none⟩ = some (.int .i64 ((q0a a2 a0).f3)) ∧ w'.cell? ⟨a4, 4, none⟩ = some (.string ((q0a a2 a0).f4)) ∧ w'.cell? (b2.add ((a0).toNat * 4)) = some (.slice f7 ((q0d a5 a0).f0).length g1) ∧ w'.cell? ⟨(b2.add ((a0).toNat * 4)).block, (b2.add ((a0).toNat * 4)).off + 1, none⟩ = some (.int .i64 ((q0d a5 a0).f1)) ∧ w'.cell? ⟨(b2.add ((a0).toNat * 4)).block, (b2.add ((a0).toNat * 4)).off + 2, none⟩ = some (.int .i64 ((q0d a5 a0).f2)) ∧ w'.cell? ⟨(b2.add ((a0).toNat * 4)).block, (b2.add ((a0).toNat * 4)).off + 3, none⟩ = some (.int .i64 ((q0d a5 a0).f3))) (ds := []) (ba 9 0) (by kernel_rfl) rfl rfl ⟨bc a1.out, bc a1.out, bc a1.out, bc a1.out, bc a1.out, bc a3.out, bc a3.out, bc a3.out, bc a3.out, bc a3.out, ((HB.out.cell (World.block_lt_of_cell? w _ b8)).trans b8), ((HB.out.cell (World.block_lt_of_cell? w _ b9)).trans b9), ((HB.out.cell (World.block_lt_of_cell? w _ c7)).trans c7), ((HB.out.cell (World.block_lt_of_cell? w _ c8)).trans c8)⟩ (fun a8 => ?_); refine q1x Fa.tab6 Fa.bits6 (fun b0 g3 => ?_)
          generalize w32.drew = u0 at a1 a3 HB e3 b3 b4 b5 b6 a8 ⊢
          refine pu 0 45 (ba 9 1) b0 ?_
          refine pu 1 46 (ba 9 3) b0 ?_
          refine pu 3 48 (ba 9 11) b0 ?_
          refine tk 2 47 (ba 9 15) b0 g3 a8 ?_
          refine pu 4 49 (ba 9 31) b0 ?_
          refine tk 5 50 (ba 9 63) b0 g3 a8 ?_
          refine tk 6 51 (ba 9 127) b0 g3 a8 ?_
          refine one_ (i := 7) (N := some 52) (ba 9 255) rfl rfl (q3g b0.out (by kernel_rfl)) (by decide) (fun K hK => ?_)
          refine q1r Try.func40 (by kernel_rfl) rfl #[.agg #[.slice f7 ((q0d a5 a0).f0).length g1, .int .i64 ((q0d a5 a0).f1), .int .i64 ((q0d a5 a0).f2), .int .i64 ((q0d a5 a0).f3)], .agg #[.int .i64 ((q0a a2 a0).f0), .int .i64 ((q0a a2 a0).f1), .int .i64 ((q0a a2 a0).f2), .int .i64 ((q0a a2 a0).f3), .string ((q0a a2 a0).f4)]] (by rfl) rfl rfl (by (try simp only [List.map_toArray, List.map_cons, List.map_nil]); first | done | rfl | (simp only [List.length_drop, List.length_take]; rfl)) ?_
          with_reducible refine (Fd.calls k2 _ _ ((q0d a5 a0).f0) ((q0d a5 a0).f1) ((q0d a5 a0).f2) ((q0d a5 a0).f3) ((q0a a2 a0).f0) ((q0a a2 a0).f1) ((q0a a2 a0).f2) ((q0a a2 a0).f3) ((q0a a2 a0).f4) true _ ?side1 ?side2 r0.out).mono ?_
          (case side1 => exact (Kd.C_below e3.out (pB HB.out)))
          (case side2 => exact g2.out)
          rintro e u1 ⟨rfl, hb⟩
          refine ⟨_, rfl, ?_⟩
          replace a1 := kB a1 hb
          replace a3 := kB a3 hb
          replace HB := bS HB hb
          (try clear hb)
          (try clear hb2)
          (try clear hk)
          (try clear hi)
          refine hK.out _ _ ⟨bc a1.out, bc a1.out, bc a1.out, bc a1.out, bc a1.out, bc a3.out, bc a3.out, bc a3.out, bc a3.out, bc a3.out, ((HB.out.cell (World.block_lt_of_cell? w _ b8)).trans b8), ((HB.out.cell (World.block_lt_of_cell? w _ b9)).trans b9), ((HB.out.cell (World.block_lt_of_cell? w _ c7)).trans c7), ((HB.out.cell (World.block_lt_of_cell? w _ c8)).trans c8)⟩ (fun a8 => ?_)
          clear hK K
          refine nh ?_
          refine pu 8 53 (ba 9 511) b0 ?_
          refine q1w (q2r b0.out (by kernel_rfl)) ?_
          try go_wp2
          go_loopg [5] k2 (fun kq v5 w' => ∃ (a6 : Int), v5 = .int .i64 a6 ∧ q0e (Fa.l1 kq a0 a6 a2 (a2.length : Int) a0 b7 d5 a5 d6 a2 ((q0a a2 a0).f0) ((q0a a2 a0).f1) ((q0a a2 a0).f2) ((q0a a2 a0).f3) ((q0a a2 a0).f4) = some r) ∧ q0e (kq ≤ k2) ∧ q0e (w'.heap[a9]? = some (.cells #[.string b7, .string d5, (.slice (some b2) a5.length f9), .int .i64 d6, (.slice (some a7) a2.length g0)] 27 (0, 0))) ∧ q0e (w'.heap[a4]? = some (.cells #[.int .i64 ((q0a a2 a0).f0), .int .i64 ((q0a a2 a0).f1), .int .i64 ((q0a a2 a0).f2), .int .i64 ((q0a a2 a0).f3), .string ((q0a a2 a0).f4)] 51 (0, 0))) ∧ q0e (Below w.heap.size w w'))
          case atStart => exact ⟨(0), el, H', ⟨Nat.le_refl _⟩, ⟨pk a1.out⟩, ⟨pk a3.out⟩, ⟨pB HB.out⟩⟩
          case round =>
           clear H'
           try clear k5
           try clear j8
           try clear i9
           try clear l7
           try clear l8
           try clear l9
           try clear m0
           try clear m1
           try clear m2
           try clear m3
           try clear g4
           try clear h5
           try clear d7
           try clear d8
           try clear d9
           try clear e0
           try clear e1
           try clear b3
           try clear b4
           try clear b5
           try clear b6
           try clear g5
           try clear g6
           try clear g7
           try clear g8
           try clear a1; try clear a3; try clear HB
           obtain ⟨a6, rfl, HA, i1, a1, a3, HB⟩ := hrel
           cases gk with
           | zero => exact absurd HA.out (by simp [Fa.l1])
           | succ k3 =>
            have H := HA.out
            clear HA
            simp only [Fa.l1] at H
            by_cases j9 : a6 < a0
            ·
             rw [if_pos j9] at H
             have j1 := decide_eq_true j9
             clear j9
             by_cases k6 : ((q0a a2 a0).f3) > 0
             ·
              rw [if_pos k6] at H
              have m4 := decide_eq_true k6
              clear k6
              by_cases o1 : 0 ≤ a6
              ·
               rw [if_pos o1] at H
               have r4 := decide_eq_true o1
               clear o1
               by_cases o2 : a6 < (a2.length : Int)
               ·
                rw [if_pos o2] at H
                have r5 := decide_eq_true o2
                clear o2
                by_cases m5 : ((q0a a2 a6).f3) = ((q0a a2 a0).f3)
                ·
                 rw [if_pos m5] at H
                 obtain ⟨m6, m7⟩ := qt m5
                 clear m5
                 obtain rfl := Option.some.inj H
                 try go_wp2
                 replace a1 := am (q0g a1.out)
                 replace a3 := am (q0g a3.out)
                 replace HB := am (q0b HB.out)
                 have h2 : 0 ≤ (a6 : Int) := od
                 have h3 : a6 < (a2.length : Int) := od
                 obtain ⟨i4, k4, d0, d1, d2, d3, d4⟩ := q1j f6.out a6 h2 h3
                 have f5 := d4
                 have e9 := d3
                 have e8 := d2
                 have e7 := d1
                 have e6 := d0
                 obtain rfl : a7 = i4 := (by injection k4)
                 replace d0 := bX HB d0
                 replace d1 := bX HB d1
                 replace d2 := bX HB d2
                 replace d3 := bX HB d3
                 replace d4 := bX HB d4
                 replace h2 := eq_true h2
                 replace h3 := eq_true h3
                 refine q2a (n := 14) (S := fun w' => w'.cell? ⟨a4, 0, none⟩ = some (.int .i64 ((q0a a2 a0).f0)) ∧ w'.cell? ⟨a4, 1, none⟩ = some (.int .i64 ((q0a a2 a0).f1)) ∧ w'.cell? ⟨a4, 2, none⟩ = some (.int .i64 ((q0a a2 a0).f2)) ∧ w'.cell? ⟨a4, 3, none⟩ = some (.int .i64 ((q0a a2 a0).f3)) ∧ w'.cell? ⟨a4, 4, none⟩ = some (.string ((q0a a2 a0).f4)) ∧ w'.cell? ⟨a9, 0, none⟩ = some (.string b7) ∧ w'.cell? ⟨a9, 1, none⟩ = some (.string d5) ∧ w'.cell? ⟨a9, 2, none⟩ = some (.slice (some b2) a5.length f9) ∧ w'.cell? ⟨a9, 3, none⟩ = some (.int .i64 d6) ∧ w'.cell? ⟨a9, 4, none⟩ = some (.slice (some a7) a2.length g0) ∧ w'.cell? (a7.add ((a6).toNat * 5)) = some (.int .i64 ((q0a a2 a6).f0)) ∧ w'.cell? ⟨(a7.add ((a6).toNat * 5)).block, (a7.add ((a6).toNat * 5)).off + 1, none⟩ = some (.int .i64 ((q0a a2 a6).f1)) ∧ w'.cell? ⟨(a7.add ((a6).toNat * 5)).block, (a7.add ((a6).toNat * 5)).off + 2, none⟩ = some (.int .i64 ((q0a a2 a6).f2)) ∧ w'.cell? ⟨(a7.add ((a6).toNat * 5)).block, (a7.add ((a6).toNat * 5)).off + 3, none⟩ = some (.int .i64 ((q0a a2 a6).f3)) ∧ w'.cell? ⟨(a7.add ((a6).toNat * 5)).block, (a7.add ((a6).toNat * 5)).off + 4, none⟩ = some (.string ((q0a a2 a6).f4))) (ds := []) (ba 14 0) (by kernel_rfl) rfl rfl ⟨bc a3.out, bc a3.out, bc a3.out, bc a3.out, bc a3.out, bc a1.out, bc a1.out, bc a1.out, bc a1.out, bc a1.out, ((HB.out.cell (World.block_lt_of_cell? w _ e6)).trans e6), ((HB.out.cell (World.block_lt_of_cell? w _ e7)).trans e7), ((HB.out.cell (World.block_lt_of_cell? w _ e8)).trans e8), ((HB.out.cell (World.block_lt_of_cell? w _ e9)).trans e9), ((HB.out.cell (World.block_lt_of_cell? w _ f5)).trans f5)⟩ (fun a8 => ?_); refine q1x Fa.tab11 Fa.bits11 (fun b0 g3 => ?_)
                 generalize wr.drew = u2 at a1 a3 HB d0 d1 d2 d3 d4 a8 ⊢
                 refine pu 0 59 (ba 14 1) b0 ?_
                 refine tk 1 60 (ba 14 3) b0 g3 a8 ?_
                 refine pu 2 61 (ba 14 7) b0 ?_
                 refine pu 3 62 (ba 14 15) b0 ?_
                 refine pu 4 63 (ba 14 31) b0 ?_
                 refine pu 6 65 (ba 14 95) b0 ?_
                 refine pu 10 69 (ba 14 1119) b0 ?_
                 refine tk 5 64 (ba 14 1151) b0 g3 a8 ?_
                 refine pu 7 66 (ba 14 1279) b0 ?_
                 refine pu 8 67 (ba 14 1535) b0 ?_
                 refine tk 9 68 (ba 14 2047) b0 g3 a8 ?_
                 refine tk 11 70 (ba 14 4095) b0 g3 a8 ?_
                 refine pu 12 71 (ba 14 8191) b0 ?_
                 refine pu 13 72 (ba 14 16383) b0 ?_
                 refine q1w (q2r b0.out (by kernel_rfl)) ?_
                 try go_wp2
                 go_ret
                 exact ⟨er, pB HB.out⟩
                rw [if_neg m5] at H
                obtain ⟨m6, m7⟩ := qf m5
                have H' := am H
                clear H
                try go_wp2
                replace a1 := am (q0g a1.out)
                replace a3 := am (q0g a3.out)
                replace HB := am (q0b HB.out)
                have h2 : 0 ≤ (a6 : Int) := od
                have h3 : a6 < (a2.length : Int) := od
                obtain ⟨i4, k4, d0, d1, d2, d3, d4⟩ := q1j f6.out a6 h2 h3
                have f5 := d4
                have e9 := d3
                have e8 := d2
                have e7 := d1
                have e6 := d0
                obtain rfl : a7 = i4 := (by injection k4)
                replace d0 := bX HB d0
                replace d1 := bX HB d1
                replace d2 := bX HB d2
                replace d3 := bX HB d3
                replace d4 := bX HB d4
                replace h2 := eq_true h2
                replace h3 := eq_true h3
                refine q2a (n := 14) (S := fun w' => w'.cell? ⟨a4, 0, none⟩ = some (.int .i64 ((q0a a2 a0).f0)) ∧ w'.cell? ⟨a4, 1, none⟩ = some (.int .i64 ((q0a a2 a0).f1)) ∧ w'.cell? ⟨a4, 2, none⟩ = some (.int .i64 ((q0a a2 a0).f2)) ∧ w'.cell? ⟨a4, 3, none⟩ = some (.int .i64 ((q0a a2 a0).f3)) ∧ w'.cell? ⟨a4, 4, none⟩ = some (.string ((q0a a2 a0).f4)) ∧ w'.cell? ⟨a9, 0, none⟩ = some (.string b7) ∧ w'.cell? ⟨a9, 1, none⟩ = some (.string d5) ∧ w'.cell? ⟨a9, 2, none⟩ = some (.slice (some b2) a5.length f9) ∧ w'.cell? ⟨a9, 3, none⟩ = some (.int .i64 d6) ∧ w'.cell? ⟨a9, 4, none⟩ = some (.slice (some a7) a2.length g0) ∧ w'.cell? (a7.add ((a6).toNat * 5)) = some (.int .i64 ((q0a a2 a6).f0)) ∧ w'.cell? ⟨(a7.add ((a6).toNat * 5)).block, (a7.add ((a6).toNat * 5)).off + 1, none⟩ = some (.int .i64 ((q0a a2 a6).f1)) ∧ w'.cell? ⟨(a7.add ((a6).toNat * 5)).block, (a7.add ((a6).toNat * 5)).off + 2, none⟩ = some (.int .i64 ((q0a a2 a6).f2)) ∧ w'.cell? ⟨(a7.add ((a6).toNat * 5)).block, (a7.add ((a6).toNat * 5)).off + 3, none⟩ = some (.int .i64 ((q0a a2 a6).f3)) ∧ w'.cell? ⟨(a7.add ((a6).toNat * 5)).block, (a7.add ((a6).toNat * 5)).off + 4, none⟩ = some (.string ((q0a a2 a6).f4))) (ds := []) (ba 14 0) (by kernel_rfl) rfl rfl ⟨bc a3.out, bc a3.out, bc a3.out, bc a3.out, bc a3.out, bc a1.out, bc a1.out, bc a1.out, bc a1.out, bc a1.out, ((HB.out.cell (World.block_lt_of_cell? w _ e6)).trans e6), ((HB.out.cell (World.block_lt_of_cell? w _ e7)).trans e7), ((HB.out.cell (World.block_lt_of_cell? w _ e8)).trans e8), ((HB.out.cell (World.block_lt_of_cell? w _ e9)).trans e9), ((HB.out.cell (World.block_lt_of_cell? w _ f5)).trans f5)⟩ (fun a8 => ?_); refine q1x Fa.tab11 Fa.bits11 (fun b0 g3 => ?_)
                generalize wr.drew = u3 at a1 a3 HB d0 d1 d2 d3 d4 a8 ⊢
                refine pu 0 59 (ba 14 1) b0 ?_
                refine tk 1 60 (ba 14 3) b0 g3 a8 ?_
                refine pu 2 61 (ba 14 7) b0 ?_
                refine pu 3 62 (ba 14 15) b0 ?_
                refine pu 4 63 (ba 14 31) b0 ?_
                refine pu 6 65 (ba 14 95) b0 ?_
                refine pu 10 69 (ba 14 1119) b0 ?_
                refine tk 5 64 (ba 14 1151) b0 g3 a8 ?_
                refine pu 7 66 (ba 14 1279) b0 ?_
                refine pu 8 67 (ba 14 1535) b0 ?_
                refine tk 9 68 (ba 14 2047) b0 g3 a8 ?_
                refine tk 11 70 (ba 14 4095) b0 g3 a8 ?_
                refine pu 12 71 (ba 14 8191) b0 ?_
                refine pu 13 72 (ba 14 16383) b0 ?_
                refine q1w (q2r b0.out (by kernel_rfl)) ?_
                try go_wp2
                go_roundg k3
                case measure => have := h9.out; have := i0.out; have := i1.out; omega
                case rel => exact ⟨(wrap64 (a6 + 1)), el, H', ⟨by have := h9.out; have := i0.out; have := i1.out; omega⟩, ⟨pk a1.out⟩, ⟨pk a3.out⟩, ⟨pB HB.out⟩⟩
               rw [if_neg o2] at H
               exact absurd H (by simp)
              rw [if_neg o1] at H
              exact absurd H (by simp)
             rw [if_neg k6] at H
             have m4 := decide_eq_false k6
             clear k6
             have H' := am H
             clear H
             try go_wp2
             replace a1 := am (q0g a1.out)
             replace a3 := am (q0g a3.out)
             replace HB := am (q0b HB.out)
             refine q2a (n := 14) (S := fun w' => w'.cell? ⟨a4, 0, none⟩ = some (.int .i64 ((q0a a2 a0).f0)) ∧ w'.cell? ⟨a4, 1, none⟩ = some (.int .i64 ((q0a a2 a0).f1)) ∧ w'.cell? ⟨a4, 2, none⟩ = some (.int .i64 ((q0a a2 a0).f2)) ∧ w'.cell? ⟨a4, 3, none⟩ = some (.int .i64 ((q0a a2 a0).f3)) ∧ w'.cell? ⟨a4, 4, none⟩ = some (.string ((q0a a2 a0).f4))) (ds := []) (ba 14 0) (by kernel_rfl) rfl rfl ⟨bc a3.out, bc a3.out, bc a3.out, bc a3.out, bc a3.out⟩ (fun a8 => ?_); refine q1x Fa.tab11 Fa.bits11 (fun b0 g3 => ?_)
             generalize wr.drew = u4 at a1 a3 HB a8 ⊢
             refine pu 0 59 (ba 14 1) b0 ?_
             refine tk 1 60 (ba 14 3) b0 g3 a8 ?_
             refine pu 2 61 (ba 14 7) b0 ?_
             refine pu 3 62 (ba 14 15) b0 ?_
             refine pe 4 63 (ba 14 31) b0 ?_
             refine pe 5 64 (ba 14 63) b0 ?_
             refine pe 6 65 (ba 14 127) b0 ?_
             refine pe 7 66 (ba 14 255) b0 ?_
             refine pe 8 67 (ba 14 511) b0 ?_
             refine pe 9 68 (ba 14 1023) b0 ?_
             refine pe 10 69 (ba 14 2047) b0 ?_
             refine pe 11 70 (ba 14 4095) b0 ?_
             refine pe 12 71 (ba 14 8191) b0 ?_
             refine pu 13 72 (ba 14 16383) b0 ?_
             refine q1w (q2r b0.out (by kernel_rfl)) ?_
             try go_wp2
             go_roundg k3
             case measure => have := h9.out; have := i0.out; have := i1.out; omega
             case rel => exact ⟨(wrap64 (a6 + 1)), el, H', ⟨by have := h9.out; have := i0.out; have := i1.out; omega⟩, ⟨pk a1.out⟩, ⟨pk a3.out⟩, ⟨pB HB.out⟩⟩
            rw [if_neg j9] at H
            have j1 := decide_eq_false j9
            clear j9
            have j7 := am H
            clear H
            go_upto_region 13 with (fail)
            go_cut [80] (fun t3 wc => ∃ (kq : Nat) (g9 : Bool), t3 = .bool g9 ∧ q0e (Fa.j3 kq a0 a2 (a2.length : Int) a0 g9 b7 d5 a5 d6 a2 ((q0a a2 a0).f0) ((q0a a2 a0).f1) ((q0a a2 a0).f2) ((q0a a2 a0).f3) ((q0a a2 a0).f4) = some r) ∧ q0e (kq ≤ k3) ∧ q0e (wc.heap[a9]? = some (.cells #[.string b7, .string d5, (.slice (some b2) a5.length f9), .int .i64 d6, (.slice (some a7) a2.length g0)] 27 (0, 0))) ∧ q0e (wc.heap[a4]? = some (.cells #[.int .i64 ((q0a a2 a0).f0), .int .i64 ((q0a a2 a0).f1), .int .i64 ((q0a a2 a0).f2), .int .i64 ((q0a a2 a0).f3), .string ((q0a a2 a0).f4)] 51 (0, 0))) ∧ q0e (Below w.heap.size w wc))
            case first =>
             have H := j7.out
             clear j7
             by_cases m8 : ((q0a a2 a0).f0) = 0
             ·
              rw [if_pos m8] at H
              obtain ⟨h0, m9⟩ := qt m8
              clear m8
              (first | rw [h0] | (simp only [q1u, q1v]; rw [h0]) | skip)
              replace H := Option.bind_eq_some_iff.mp H
              obtain ⟨o0, k9, H⟩ := H
              try dsimp only at H
              have s6 := am k9
              clear k9
              have H' := am H
              clear H
              have r7 := nn b1
              have p0 := y5 a3
              have p1 := y5 a1
              go_wp2_with (first | (go_at_call 41; (with_reducible refine (Fo.calls k3 b7 d5 _ _ a5 d6 _ _ a2 a0 o0 _ ?side1 ?side2 ?side3 ?side4 s6.out).mono ?_); (case side1 => exact (Kd.C_below e2.out (pB HB.out))); (case side2 => exact f8.out); (case side3 => exact (Kd.C_below f6.out (pB HB.out))); (case side4 => exact h4.out); rintro e u5 ⟨rfl, hb⟩; replace a1 := kB a1 hb; replace a3 := kB a3 hb; replace HB := bS HB hb; (try clear hb)))
              go_meet
              case rel => exact ⟨_, (o0), el, H', ⟨by have := h9.out; have := i0.out; have := i1.out; first | omega | exact Nat.le_refl _⟩, ⟨pk a1.out⟩, ⟨pk a3.out⟩, ⟨pB HB.out⟩⟩
             rw [if_neg m8] at H
             obtain ⟨h0, m9⟩ := qf m8
             (first | rw [h0] | (simp only [q1u, q1v]; rw [h0]) | skip)
             have H' := am H
             clear H
             have r8 := nn b1
             have p2 := y5 a3
             go_wp2
             go_meet
             case rel => exact ⟨_, (false), el, H', ⟨by have := h9.out; have := i0.out; have := i1.out; first | omega | exact Nat.le_refl _⟩, ⟨pk a1.out⟩, ⟨pk a3.out⟩, ⟨pB HB.out⟩⟩
            case rest =>
             clear j7
             try clear j9
             try clear j1
             try clear g4
             try clear h5
             try clear d7
             try clear d8
             try clear d9
             try clear e0
             try clear e1
             try clear b3
             try clear b4
             try clear b5
             try clear b6
             try clear g5
             try clear g6
             try clear g7
             try clear g8
             obtain ⟨kq, g9, rfl, HA, h7, a1, a3, HB⟩ := hcut
             cases kq with
             | zero => exact absurd HA.out (by simp [Fa.j3])
             | succ i6 =>
              have H := HA.out
              clear HA
              simp only [Fa.j3] at H
              by_cases o3 : g9 = true
              ·
               subst o3
               rw [if_pos rfl] at H
               try dsimp only at H
               obtain rfl := Option.some.inj H
               go_wp2
               go_ret
               exact ⟨er, pB HB.out⟩
              replace o3 := Bool.eq_false_iff.mpr o3
              subst o3
              rw [if_neg (show ¬ (false = true) by decide)] at H
              try dsimp only at H
              by_cases n0 : ((q0a a2 a0).f0) = 0
              ·
               rw [if_pos n0] at H
               obtain ⟨n1, n2⟩ := qt n0
               clear n0
               have H' := am H
               clear H
               have r9 := nn b1
               have p3 := y5 a3
               go_wp2
               go_roundg i6
               case measure => have := h9.out; have := i0.out; have := i1.out; have := h7.out; omega
               case rel => exact ⟨(wrap64 (a0 + 1)), el, H', ⟨by have := h9.out; have := i0.out; have := i1.out; have := h7.out; omega⟩, ⟨pk a1.out⟩, ⟨pB HB.out⟩⟩
              rw [if_neg n0] at H
              obtain ⟨n1, n2⟩ := qf n0
              by_cases n3 : ((q0a a2 a0).f0) = 5
              ·
               rw [if_pos n3] at H
               obtain ⟨n4, n5⟩ := qt n3
               clear n3
               have H' := am H
               clear H
               have s0 := nn b1
               have p4 := y5 a3
               go_wp2
               go_roundg i6
               case measure => have := h9.out; have := i0.out; have := i1.out; have := h7.out; omega
               case rel => exact ⟨(wrap64 (a0 + 1)), el, H', ⟨by have := h9.out; have := i0.out; have := i1.out; have := h7.out; omega⟩, ⟨pk a1.out⟩, ⟨pB HB.out⟩⟩
              rw [if_neg n3] at H
              obtain ⟨n4, n5⟩ := qf n3
              replace H := Option.bind_eq_some_iff.mp H
              obtain ⟨q9, l2, H⟩ := H
              try dsimp only at H
              have r1 := am l2
              clear l2
              by_cases o4 : q9 = true
              ·
               subst o4
               rw [if_pos rfl] at H
               try dsimp only at H
               have H' := am H
               clear H
               have s1 := nn b1
               have p5 := y5 a3
               have p6 := y5 a1
               go_wp2_with (first | (go_at_call 41; (with_reducible refine (Fo.calls i6 b7 d5 _ _ a5 d6 _ _ a2 a0 true _ ?side1 ?side2 ?side3 ?side4 r1.out).mono ?_); (case side1 => exact (Kd.C_below e2.out (pB HB.out))); (case side2 => exact f8.out); (case side3 => exact (Kd.C_below f6.out (pB HB.out))); (case side4 => exact h4.out); rintro e u6 ⟨rfl, hb⟩; replace a1 := kB a1 hb; replace a3 := kB a3 hb; replace HB := bS HB hb; (try clear hb)))
               go_roundg i6
               case measure => have := h9.out; have := i0.out; have := i1.out; have := h7.out; omega
               case rel => exact ⟨(wrap64 (a0 + 1)), el, H', ⟨by have := h9.out; have := i0.out; have := i1.out; have := h7.out; omega⟩, ⟨pk a1.out⟩, ⟨pB HB.out⟩⟩
              replace o4 := Bool.eq_false_iff.mpr o4
              subst o4
              rw [if_neg (show ¬ (false = true) by decide)] at H
              try dsimp only at H
              obtain rfl := Option.some.inj H
              have s2 := nn b1
              have p7 := y5 a3
              have p8 := y5 a1
              go_wp2_with (first | (go_at_call 41; (with_reducible refine (Fo.calls i6 b7 d5 _ _ a5 d6 _ _ a2 a0 false _ ?side1 ?side2 ?side3 ?side4 r1.out).mono ?_); (case side1 => exact (Kd.C_below e2.out (pB HB.out))); (case side2 => exact f8.out); (case side3 => exact (Kd.C_below f6.out (pB HB.out))); (case side4 => exact h4.out); rintro e u7 ⟨rfl, hb⟩; replace a1 := kB a1 hb; replace a3 := kB a3 hb; replace HB := bS HB hb; (try clear hb)))
              go_ret
              exact ⟨er, pB HB.out⟩
         replace m3 := Bool.eq_false_iff.mpr m3
         subst m3
         rw [if_neg (show ¬ (false = true) by decide)] at H
         try dsimp only at H
         obtain rfl := Option.some.inj H
         have g5 : 0 ≤ (a0 : Int) := od
         have g7 : a0 < (a2.length : Int) := od
         obtain ⟨a7, k0, d7, d8, d9, e0, e1⟩ := q1j f6.out a0 g5 g7
         cases k0
         replace d7 := bX HB d7
         replace d8 := bX HB d8
         replace d9 := bX HB d9
         replace e0 := bX HB e0
         replace e1 := bX HB e1
         replace g5 := eq_true g5
         replace g7 := eq_true g7
         try go_wp2_with (first | ((with_reducible refine gD 4 ?_); (try (refine q1g (by rfl) ?_; dsimp only)); refine bz 4 #[.int .i64 0, .int .i64 0, .int .i64 0, .int .i64 0, .string (⟨#[]⟩ : ByteArray)] 51 HB ?_; clear HB; intro a4 hg t5 hb a3 l3 HB; have h8 := nL hg a1; have b1 := nG hg a1; replace a1 := kB a1 hb; clear hb hg; have s3 := nn b1; have p9 := y5 a3))
         obtain ⟨w72, hw⟩ : ∃ x, x = (((((t5.setCell ⟨a4, 0, none⟩ (.int .i64 ((q0a a2 a0).f0))).setCell ⟨a4, 1, none⟩ (.int .i64 ((q0a a2 a0).f1))).setCell ⟨a4, 2, none⟩ (.int .i64 ((q0a a2 a0).f2))).setCell ⟨a4, 3, none⟩ (.int .i64 ((q0a a2 a0).f3))).setCell ⟨a4, 4, none⟩ (.string ((q0a a2 a0).f4))) := ⟨_, rfl⟩
         have n6 := kW hw a1
         have n7 := pW (cs' := #[.int .i64 ((q0a a2 a0).f0), .int .i64 ((q0a a2 a0).f1), .int .i64 ((q0a a2 a0).f2), .int .i64 ((q0a a2 a0).f3), .string ((q0a a2 a0).f4)]) hw a3
         have n8 := bW hw HB
         (try clear a1)
         (try clear a3)
         (try clear HB)
         rw [← hw]
         clear hw
         have a1 := n6
         have a3 := n7
         have HB := n8
         clear n6 n7 n8
         replace a1 := am (q0g a1.out)
         replace a3 := am (q0g a3.out)
         replace HB := am (q0b HB.out)
         have g6 : 0 ≤ (a0 : Int) := od
         have g8 : a0 < (a5.length : Int) := od
         obtain ⟨b2, f7, g1, k1, b3, b4, b5, b6, e5, e4⟩ := q1s e2.out a0 g6 g8
         have c8 := b6
         have c7 := b5
         have b9 := b4
         have b8 := b3
         cases k1
         replace b3 := bX HB b3
         replace b4 := bX HB b4
         replace b5 := bX HB b5
         replace b6 := bX HB b6
         have e3 := am e4
         have g2 := am e5
         clear e4 e5
         replace g6 := eq_true g6
         replace g8 := eq_true g8
         refine q2a (n := 9) (S := fun w' => w'.cell? ⟨a9, 0, none⟩ = some (.string b7) ∧ w'.cell? ⟨a9, 1, none⟩ = some (.string d5) ∧ w'.cell? ⟨a9, 2, none⟩ = some (.slice (some b2) a5.length f9) ∧ w'.cell? ⟨a9, 3, none⟩ = some (.int .i64 d6) ∧ w'.cell? ⟨a9, 4, none⟩ = some (.slice (some a7) a2.length g0) ∧ w'.cell? ⟨a4, 0, none⟩ = some (.int .i64 ((q0a a2 a0).f0)) ∧ w'.cell? ⟨a4, 1, none⟩ = some (.int .i64 ((q0a a2 a0).f1)) ∧ w'.cell? ⟨a4, 2, none⟩ = some (.int .i64 ((q0a a2 a0).f2)) ∧ w'.cell? ⟨a4, 3, none⟩ = some (.int .i64 ((q0a a2 a0).f3)) ∧ w'.cell? ⟨a4, 4, none⟩ = some (.string ((q0a a2 a0).f4)) ∧ w'.cell? (b2.add ((a0).toNat * 4)) = some (.slice f7 ((q0d a5 a0).f0).length g1) ∧ w'.cell? ⟨(b2.add ((a0).toNat * 4)).block, (b2.add ((a0).toNat * 4)).off + 1, none⟩ = some (.int .i64 ((q0d a5 a0).f1)) ∧ w'.cell? ⟨(b2.add ((a0).toNat * 4)).block, (b2.add ((a0).toNat * 4)).off + 2, none⟩ = some (.int .i64 ((q0d a5 a0).f2)) ∧ w'.cell? ⟨(b2.add ((a0).toNat * 4)).block, (b2.add ((a0).toNat * 4)).off + 3, none⟩ = some (.int .i64 ((q0d a5 a0).f3))) (ds := []) (ba 9 0) (by kernel_rfl) rfl rfl ⟨bc a1.out, bc a1.out, bc a1.out, bc a1.out, bc a1.out, bc a3.out, bc a3.out, bc a3.out, bc a3.out, bc a3.out, ((HB.out.cell (World.block_lt_of_cell? w _ b8)).trans b8), ((HB.out.cell (World.block_lt_of_cell? w _ b9)).trans b9), ((HB.out.cell (World.block_lt_of_cell? w _ c7)).trans c7), ((HB.out.cell (World.block_lt_of_cell? w _ c8)).trans c8)⟩ (fun a8 => ?_); refine q1x Fa.tab6 Fa.bits6 (fun b0 g3 => ?_)
         generalize w72.drew = u8 at a1 a3 HB e3 b3 b4 b5 b6 a8 ⊢
         refine pu 0 45 (ba 9 1) b0 ?_
         refine pu 1 46 (ba 9 3) b0 ?_
         refine pu 3 48 (ba 9 11) b0 ?_
         refine tk 2 47 (ba 9 15) b0 g3 a8 ?_
         refine pu 4 49 (ba 9 31) b0 ?_
         refine tk 5 50 (ba 9 63) b0 g3 a8 ?_
         refine tk 6 51 (ba 9 127) b0 g3 a8 ?_
         refine one_ (i := 7) (N := some 52) (ba 9 255) rfl rfl (q3g b0.out (by kernel_rfl)) (by decide) (fun K hK => ?_)
         refine q1r Try.func40 (by kernel_rfl) rfl #[.agg #[.slice f7 ((q0d a5 a0).f0).length g1, .int .i64 ((q0d a5 a0).f1), .int .i64 ((q0d a5 a0).f2), .int .i64 ((q0d a5 a0).f3)], .agg #[.int .i64 ((q0a a2 a0).f0), .int .i64 ((q0a a2 a0).f1), .int .i64 ((q0a a2 a0).f2), .int .i64 ((q0a a2 a0).f3), .string ((q0a a2 a0).f4)]] (by rfl) rfl rfl (by (try simp only [List.map_toArray, List.map_cons, List.map_nil]); first | done | rfl | (simp only [List.length_drop, List.length_take]; rfl)) ?_
         with_reducible refine (Fd.calls k2 _ _ ((q0d a5 a0).f0) ((q0d a5 a0).f1) ((q0d a5 a0).f2) ((q0d a5 a0).f3) ((q0a a2 a0).f0) ((q0a a2 a0).f1) ((q0a a2 a0).f2) ((q0a a2 a0).f3) ((q0a a2 a0).f4) false _ ?side1 ?side2 r0.out).mono ?_
         (case side1 => exact (Kd.C_below e3.out (pB HB.out)))
         (case side2 => exact g2.out)
         rintro e u9 ⟨rfl, hb⟩
         refine ⟨_, rfl, ?_⟩
         replace a1 := kB a1 hb
         replace a3 := kB a3 hb
         replace HB := bS HB hb
         (try clear hb)
         (try clear hb2)
         (try clear hk)
         (try clear hi)
         refine hK.out _ _ ⟨bc a1.out, bc a1.out, bc a1.out, bc a1.out, bc a1.out, bc a3.out, bc a3.out, bc a3.out, bc a3.out, bc a3.out, ((HB.out.cell (World.block_lt_of_cell? w _ b8)).trans b8), ((HB.out.cell (World.block_lt_of_cell? w _ b9)).trans b9), ((HB.out.cell (World.block_lt_of_cell? w _ c7)).trans c7), ((HB.out.cell (World.block_lt_of_cell? w _ c8)).trans c8)⟩ (fun a8 => ?_)
         clear hK K
         refine nh ?_
         refine pu 8 53 (ba 9 511) b0 ?_
         refine q1w (q2r b0.out (by kernel_rfl)) ?_
         try go_wp2
         go_ret
         exact ⟨er, pB HB.out⟩
        rw [if_neg m1] at H
        exact absurd H (by simp)
       rw [if_neg l9] at H
       exact absurd H (by simp)
      rw [if_neg l7] at H
      exact absurd H (by simp)
     rw [if_neg j8] at H
     have i9 := decide_eq_false j8
     clear j8
     obtain rfl := Option.some.inj H
     go_wp2
     go_ret
     exact ⟨er, pB HB.out⟩
end Go.Proofs.Ytabmkighhmchmaa.X
namespace Go.YW.Sq
open Go.RowKit Go.YW.PrintWords Go.YW.PrintLast Go.YW.PrintMore
theorem vaw {α : Type} {d : Kd α} {e base n c g : Nat} {ok : Nat → Prop} {w : World} {ad : Addr} {xs : List α} (h : Kd.V d e w base ok (.slice (some ad) n c) xs) (hok : ∀ k, ok k → k ≠ g) (hs : 0 < d.sz := by first | decide | exact Nat.zero_lt_succ _) (hn : 0 < xs.length := by omega) : ad.block ≠ g := by
 obtain ⟨A, c', hv, hl, hf⟩ := h
 injection hv with h1 h2 h3
 subst h1
 exact hok _ (Kd.F_in hf rfl hn hs)
end Go.YW.Sq
namespace Go.Proofs.Ytabmkighhmchmaa.X
open Go.RowKit Go.YW.PrintWords Go.YW.PrintLast Go.YW.PrintMore Go.YW.Sq
attribute [local go_sem] q0y q0w q1e q1d q0t q0s q0x q0v
set_option linter.unusedVariables false
set_option linter.unusedSimpArgs false
def Ge.f (k : Nat)  : Option (Bool) := (Gt.f k (⟨#[107]⟩ : ByteArray) (⟨#[97]⟩ : ByteArray) (([(⟨([] : List Int), 1, 0, 1⟩ : S49)] : List (S49)))).bind fun a0 => (if a0.2.2.2.2.2 = 0 then (if (a0.2.2.2.2.1.length : Int) = 1 then (if 0 < (a0.2.2.2.2.1.length : Int) then (if ((q0a a0.2.2.2.2.1 0).f0) = 1 then ((Gu.f k a0.1 a0.2.1 a0.2.2.1 a0.2.2.2.1 a0.2.2.2.2.1).bind fun a1 => (some a1)) else (some false)) else (none)) else (some false)) else (some false))
set_option maxHeartbeats 8000000 in
set_option maxRecDepth 100000 in
theorem Ge.calls (k : Nat)  (r : Bool) (w : World) (h : Ge.f k  = some r) :
  Calls Try.prog 16 #[] w fun e w' => e = .returned (.bool r) ∧ Below w.heap.size w w' := by
 have k3 := Try.underlying49
 have k1 := Try.underlying24
 have k2 := Try.underlying27
 have HB := am (Below.refl w.heap.size w)
 unfold Ge.f at h
 have H := h
 clear h
 obtain ⟨y241, hy241⟩ : ∃ y_ : List (S49), y_ = (([(⟨([] : List Int), 1, 0, 1⟩ : S49)] : List (S49))) := ⟨_, rfl⟩
 replace H : ((Gt.f k (⟨#[107]⟩ : ByteArray) (⟨#[97]⟩ : ByteArray) y241).bind fun c7 => (if c7.2.2.2.2.2 = 0 then (if (c7.2.2.2.2.1.length : Int) = 1 then (if 0 < (c7.2.2.2.2.1.length : Int) then (if ((q0a c7.2.2.2.2.1 0).f0) = 1 then ((Gu.f k c7.1 c7.2.1 c7.2.2.1 c7.2.2.2.1 c7.2.2.2.2.1).bind fun e8 => (some e8)) else (some false)) else (none)) else (some false)) else (some false))) = some r := by first | (rw [hy241]; with_reducible exact H) | (have g2 := (Option.bind_some _ _).symm.trans H; rw [hy241]; with_reducible exact g2) | (have g2 := (Option.bind_some _ _).symm.trans H; with_reducible exact g2) | with_reducible exact H | (rw [hy241]; exact H) | exact H
 have c9 := am hy241
 clear hy241
 replace H := Option.bind_eq_some_iff.mp H
 obtain ⟨⟨b6, b7, b8, b9, b5, e5⟩, i4, H⟩ := H
 try dsimp only at H
 have A1 := am i4
 clear i4
 by_cases c2 : e5 = 0
 ·
  rw [if_pos c2] at H
  obtain ⟨g3, g4⟩ := qt c2
  clear c2
  by_cases c3 : (b5.length : Int) = 1
  ·
   rw [if_pos c3] at H
   obtain ⟨g5, g6⟩ := qt c3
   clear c3
   by_cases c4 : 0 < (b5.length : Int)
   ·
    rw [if_pos c4] at H
    have j3 := decide_eq_true c4
    have j4 : decide (0 < b5.length) = true := decide_eq_true (by omega)
    clear c4
    by_cases c5 : ((q0a b5 0).f0) = 1
    ·
     rw [if_pos c5] at H
     obtain ⟨g7, g8⟩ := qt c5
     clear c5
     replace H := Option.bind_eq_some_iff.mp H
     obtain ⟨e8, i5, H⟩ := H
     try dsimp only at H
     have A6 := am i5
     clear i5
     obtain rfl := Option.some.inj H
     go_enter Try.func16, Try.ntmps16
     go_wp2_with (first | ((with_reducible refine gD 5 ?_); (try (refine q1g (by rfl) ?_; dsimp only)); refine Kd.S_lit k49 _ 49 ?hg (N := 5) ?hd (xs := ([(⟨([] : List Int), 1, 0, 1⟩ : S49)] : List (S49))) (inner := [.slice none 0 0, .int .i64 1, .int .i64 0, .int .i64 1]) (ok := fun _ => True) (okp := fun _ => True) ?hr ?hp (fun _ hk => hk) trivial (Below.refl _ _) (Nat.le_refl _) (by simp) ?_; (case hd => rfl); (case hg => rfl); (case hr => first | (go_simp; done) | (go_simp; rfl)); (case hp => exact (Reps.c4 (show Kd.M k49 _ _ _ (⟨([] : List Int), 1, 0, 1⟩ : S49) [.slice none 0 0, .int .i64 1, .int .i64 0, .int .i64 1] from (k49_mkM _ _ _ (⟨([] : List Int), 1, 0, 1⟩ : S49) (Kd.R_nil _ _ _ _ _))) (Reps.none _ _))); intro e9 w7 f3 hb e7 d0; clear e7 d0; (first | rw [← c9.out] at f3 | (simp only [Int.reduceToNat] at f3; rw [← c9.out] at f3)); have a7 := am (Kd.S_lower f3 (q0m (pB HB.out))); replace HB := bS HB hb; clear hb f3; obtain ⟨j2, j9, k0⟩ := Kd.S_slice a7.out; subst k0) | ((with_reducible refine gC 10 ?_); refine gL 7 Try.func10 #[.string (⟨#[107]⟩ : ByteArray), .agg #[.string (⟨#[97]⟩ : ByteArray), .slice j2 y241.length j9]] ?_; (with_reducible refine (Gt.calls k (⟨#[107]⟩ : ByteArray) (⟨#[97]⟩ : ByteArray) (fun k_ => True) _ _ y241 b6 b7 b8 b9 b5 e5 _ ?side1 A1.out).mono ?_); (case side1 => exact Kd.S_V (a7.out)); rintro e k4 ⟨f1, f2, rfl, e0, e1, hb⟩; refine ⟨_, rfl, ?_⟩; replace a7 := am (Kd.S_below (pS a7.out) hb); have b4 := vL (ok' := fun k_ => True) HB e0 (fun k_ c8 => trivial); have a6 := vL (ok' := fun k_ => True) HB e1 (fun k_ c8 => trivial); replace HB := bS HB hb; (try clear hb); (try clear e0); (try clear e1)) | ((with_reducible refine gD 1 ?_); (try (refine q1g (by rfl) ?_; dsimp only)); refine bz 1 #[.string (⟨#[]⟩ : ByteArray), .string (⟨#[]⟩ : ByteArray), .slice none 0 0, .int .i64 0, .slice none 0 0] 27 HB ?_; clear HB; intro a0 hg k5 hb c6 d7 HB; replace a7 := am (Kd.S_below (pS a7.out) hb); replace b4 := vE b4 hg hb; replace a6 := vE a6 hg hb; clear hb hg; have f5 := y5 c6; obtain ⟨d3, d4, h3⟩ := Kd.V_slice b4.out; subst h3; obtain ⟨i6, d5, h4⟩ := Kd.V_slice a6.out; subst h4; have d1 : 0 ≤ (0 : Int) := (by omega); have d2 : 0 < (b5.length : Int) := od; obtain ⟨b3, e6, a1, a2, a3, a4, a5⟩ := q1j (Kd.V_reads' a6.out).2.2 0 d1 d2; cases e6; have f4 : (0 < b5.length) = True := eq_true (by omega); (try rw [show ((0 : Int)).toNat = 0 from rfl] at a1); (try rw [show 0 * 5 = 0 from rfl] at a1); (try rw [Addr.add_zero'] at a1); (try rw [show ((0 : Int)).toNat = 0 from rfl] at a2); (try rw [show 0 * 5 = 0 from rfl] at a2); (try rw [Addr.add_zero'] at a2); (try rw [show ((0 : Int)).toNat = 0 from rfl] at a3); (try rw [show 0 * 5 = 0 from rfl] at a3); (try rw [Addr.add_zero'] at a3); (try rw [show ((0 : Int)).toNat = 0 from rfl] at a4); (try rw [show 0 * 5 = 0 from rfl] at a4); (try rw [Addr.add_zero'] at a4); (try rw [show ((0 : Int)).toNat = 0 from rfl] at a5); (try rw [show 0 * 5 = 0 from rfl] at a5); (try rw [Addr.add_zero'] at a5); have a8 : b3.block ≠ a0 := vaw a6.out (fun _ c8 => c8.2) (hn := by omega); have a9 : b3.block ≠ a0 := vaw a6.out (fun _ c8 => c8.2) (hn := by omega); have b0 : b3.block ≠ a0 := vaw a6.out (fun _ c8 => c8.2) (hn := by omega); have b1 : b3.block ≠ a0 := vaw a6.out (fun _ c8 => c8.2) (hn := by omega); have b2 : b3.block ≠ a0 := vaw a6.out (fun _ c8 => c8.2) (hn := by omega); replace a1 := (cell_far (p := ⟨a0, 0, none⟩) (nb a8) (.string b6)).trans a1; replace a2 := (cell_far (p := ⟨a0, 0, none⟩) (nb a8) (.string b6)).trans a2; replace a3 := (cell_far (p := ⟨a0, 0, none⟩) (nb a8) (.string b6)).trans a3; replace a4 := (cell_far (p := ⟨a0, 0, none⟩) (nb a8) (.string b6)).trans a4; replace a5 := (cell_far (p := ⟨a0, 0, none⟩) (nb a8) (.string b6)).trans a5; replace a1 := (cell_far (p := ⟨a0, 1, none⟩) (nb a9) (.string b7)).trans a1; replace a2 := (cell_far (p := ⟨a0, 1, none⟩) (nb a9) (.string b7)).trans a2; replace a3 := (cell_far (p := ⟨a0, 1, none⟩) (nb a9) (.string b7)).trans a3; replace a4 := (cell_far (p := ⟨a0, 1, none⟩) (nb a9) (.string b7)).trans a4; replace a5 := (cell_far (p := ⟨a0, 1, none⟩) (nb a9) (.string b7)).trans a5; replace a1 := (cell_far (p := ⟨a0, 2, none⟩) (nb b0) (.slice d3 b8.length d4)).trans a1; replace a2 := (cell_far (p := ⟨a0, 2, none⟩) (nb b0) (.slice d3 b8.length d4)).trans a2; replace a3 := (cell_far (p := ⟨a0, 2, none⟩) (nb b0) (.slice d3 b8.length d4)).trans a3; replace a4 := (cell_far (p := ⟨a0, 2, none⟩) (nb b0) (.slice d3 b8.length d4)).trans a4; replace a5 := (cell_far (p := ⟨a0, 2, none⟩) (nb b0) (.slice d3 b8.length d4)).trans a5; replace a1 := (cell_far (p := ⟨a0, 3, none⟩) (nb b1) (.int .i64 b9)).trans a1; replace a2 := (cell_far (p := ⟨a0, 3, none⟩) (nb b1) (.int .i64 b9)).trans a2; replace a3 := (cell_far (p := ⟨a0, 3, none⟩) (nb b1) (.int .i64 b9)).trans a3; replace a4 := (cell_far (p := ⟨a0, 3, none⟩) (nb b1) (.int .i64 b9)).trans a4; replace a5 := (cell_far (p := ⟨a0, 3, none⟩) (nb b1) (.int .i64 b9)).trans a5; replace a1 := (cell_far (p := ⟨a0, 4, none⟩) (nb b2) (.slice (some b3) b5.length d5)).trans a1; replace a2 := (cell_far (p := ⟨a0, 4, none⟩) (nb b2) (.slice (some b3) b5.length d5)).trans a2; replace a3 := (cell_far (p := ⟨a0, 4, none⟩) (nb b2) (.slice (some b3) b5.length d5)).trans a3; replace a4 := (cell_far (p := ⟨a0, 4, none⟩) (nb b2) (.slice (some b3) b5.length d5)).trans a4; replace a5 := (cell_far (p := ⟨a0, 4, none⟩) (nb b2) (.slice (some b3) b5.length d5)).trans a5; clear a8 a9 b0 b1 b2; replace d1 := eq_true d1; replace d2 := eq_true d2) | (go_at_call 17; (with_reducible refine (Gu.calls k b6 b7 _ _ b8 b9 _ _ b5 e8 _ ?side1 ?side2 ?side3 ?side4 A6.out).mono ?_); (case side1 => exact (Kd.V_reads' (pV b4.out)).2.2); (case side2 => exact (Kd.V_reads' b4.out).2.1); (case side3 => exact (Kd.V_reads' (pV a6.out)).2.2); (case side4 => exact (Kd.V_reads' a6.out).2.1); rintro e k6 ⟨rfl, hb⟩; replace a7 := am (Kd.S_below ((Kd.S_mono (pS (Kd.S_types a7.out c6.out (by decide))) (fun _ h_ => h_.1))) hb); replace b4 := vB b4 hb; replace a6 := vB a6 hb; replace c6 := am (q0c (g := a0) (o := .cells #[.string b6, .string b7, .slice d3 b8.length d4, .int .i64 b9, .slice (some b3) b5.length d5] 27 (0, 0)) (pP c6.out) hb); replace HB := bS HB hb; (try clear hb)))
     go_ret
     exact ⟨er, pB HB.out⟩
    rw [if_neg c5] at H
    obtain ⟨g7, g8⟩ := qf c5
    clear c5
    obtain rfl := Option.some.inj H
    go_enter Try.func16, Try.ntmps16
    go_wp2_with (first | ((with_reducible refine gD 5 ?_); (try (refine q1g (by rfl) ?_; dsimp only)); refine Kd.S_lit k49 _ 49 ?hg (N := 5) ?hd (xs := ([(⟨([] : List Int), 1, 0, 1⟩ : S49)] : List (S49))) (inner := [.slice none 0 0, .int .i64 1, .int .i64 0, .int .i64 1]) (ok := fun _ => True) (okp := fun _ => True) ?hr ?hp (fun _ hk => hk) trivial (Below.refl _ _) (Nat.le_refl _) (by simp) ?_; (case hd => rfl); (case hg => rfl); (case hr => first | (go_simp; done) | (go_simp; rfl)); (case hp => exact (Reps.c4 (show Kd.M k49 _ _ _ (⟨([] : List Int), 1, 0, 1⟩ : S49) [.slice none 0 0, .int .i64 1, .int .i64 0, .int .i64 1] from (k49_mkM _ _ _ (⟨([] : List Int), 1, 0, 1⟩ : S49) (Kd.R_nil _ _ _ _ _))) (Reps.none _ _))); intro e9 k7 e2 hb e7 d0; clear e7 d0; (first | rw [← c9.out] at e2 | (simp only [Int.reduceToNat] at e2; rw [← c9.out] at e2)); have a7 := am (Kd.S_lower e2 (q0m (pB HB.out))); replace HB := bS HB hb; clear hb e2; obtain ⟨f9, g9, h5⟩ := Kd.S_slice a7.out; subst h5) | ((with_reducible refine gC 10 ?_); refine gL 7 Try.func10 #[.string (⟨#[107]⟩ : ByteArray), .agg #[.string (⟨#[97]⟩ : ByteArray), .slice f9 y241.length g9]] ?_; (with_reducible refine (Gt.calls k (⟨#[107]⟩ : ByteArray) (⟨#[97]⟩ : ByteArray) (fun k_ => True) _ _ y241 b6 b7 b8 b9 b5 e5 _ ?side1 A1.out).mono ?_); (case side1 => exact Kd.S_V (a7.out)); rintro e k8 ⟨f1, f2, rfl, e0, e1, hb⟩; refine ⟨_, rfl, ?_⟩; replace a7 := am (Kd.S_below (pS a7.out) hb); have b4 := vL (ok' := fun k_ => True) HB e0 (fun k_ c8 => trivial); have a6 := vL (ok' := fun k_ => True) HB e1 (fun k_ c8 => trivial); replace HB := bS HB hb; (try clear hb); (try clear e0); (try clear e1)) | ((with_reducible refine gD 1 ?_); (try (refine q1g (by rfl) ?_; dsimp only)); refine bz 1 #[.string (⟨#[]⟩ : ByteArray), .string (⟨#[]⟩ : ByteArray), .slice none 0 0, .int .i64 0, .slice none 0 0] 27 HB ?_; clear HB; intro a0 hg k9 hb c6 d7 HB; replace a7 := am (Kd.S_below (pS a7.out) hb); replace b4 := vE b4 hg hb; replace a6 := vE a6 hg hb; clear hb hg; have f6 := y5 c6; obtain ⟨d6, d8, h6⟩ := Kd.V_slice b4.out; subst h6; obtain ⟨i7, d9, h7⟩ := Kd.V_slice a6.out; subst h7; have d1 : 0 ≤ (0 : Int) := (by omega); have d2 : 0 < (b5.length : Int) := od; obtain ⟨b3, e6, a1, a2, a3, a4, a5⟩ := q1j (Kd.V_reads' a6.out).2.2 0 d1 d2; cases e6; have f4 : (0 < b5.length) = True := eq_true (by omega); (try rw [show ((0 : Int)).toNat = 0 from rfl] at a1); (try rw [show 0 * 5 = 0 from rfl] at a1); (try rw [Addr.add_zero'] at a1); (try rw [show ((0 : Int)).toNat = 0 from rfl] at a2); (try rw [show 0 * 5 = 0 from rfl] at a2); (try rw [Addr.add_zero'] at a2); (try rw [show ((0 : Int)).toNat = 0 from rfl] at a3); (try rw [show 0 * 5 = 0 from rfl] at a3); (try rw [Addr.add_zero'] at a3); (try rw [show ((0 : Int)).toNat = 0 from rfl] at a4); (try rw [show 0 * 5 = 0 from rfl] at a4); (try rw [Addr.add_zero'] at a4); (try rw [show ((0 : Int)).toNat = 0 from rfl] at a5); (try rw [show 0 * 5 = 0 from rfl] at a5); (try rw [Addr.add_zero'] at a5); have a8 : b3.block ≠ a0 := vaw a6.out (fun _ c8 => c8.2) (hn := by omega); have a9 : b3.block ≠ a0 := vaw a6.out (fun _ c8 => c8.2) (hn := by omega); have b0 : b3.block ≠ a0 := vaw a6.out (fun _ c8 => c8.2) (hn := by omega); have b1 : b3.block ≠ a0 := vaw a6.out (fun _ c8 => c8.2) (hn := by omega); have b2 : b3.block ≠ a0 := vaw a6.out (fun _ c8 => c8.2) (hn := by omega); replace a1 := (cell_far (p := ⟨a0, 0, none⟩) (nb a8) (.string b6)).trans a1; replace a2 := (cell_far (p := ⟨a0, 0, none⟩) (nb a8) (.string b6)).trans a2; replace a3 := (cell_far (p := ⟨a0, 0, none⟩) (nb a8) (.string b6)).trans a3; replace a4 := (cell_far (p := ⟨a0, 0, none⟩) (nb a8) (.string b6)).trans a4; replace a5 := (cell_far (p := ⟨a0, 0, none⟩) (nb a8) (.string b6)).trans a5; replace a1 := (cell_far (p := ⟨a0, 1, none⟩) (nb a9) (.string b7)).trans a1; replace a2 := (cell_far (p := ⟨a0, 1, none⟩) (nb a9) (.string b7)).trans a2; replace a3 := (cell_far (p := ⟨a0, 1, none⟩) (nb a9) (.string b7)).trans a3; replace a4 := (cell_far (p := ⟨a0, 1, none⟩) (nb a9) (.string b7)).trans a4; replace a5 := (cell_far (p := ⟨a0, 1, none⟩) (nb a9) (.string b7)).trans a5; replace a1 := (cell_far (p := ⟨a0, 2, none⟩) (nb b0) (.slice d6 b8.length d8)).trans a1; replace a2 := (cell_far (p := ⟨a0, 2, none⟩) (nb b0) (.slice d6 b8.length d8)).trans a2; replace a3 := (cell_far (p := ⟨a0, 2, none⟩) (nb b0) (.slice d6 b8.length d8)).trans a3; replace a4 := (cell_far (p := ⟨a0, 2, none⟩) (nb b0) (.slice d6 b8.length d8)).trans a4; replace a5 := (cell_far (p := ⟨a0, 2, none⟩) (nb b0) (.slice d6 b8.length d8)).trans a5; replace a1 := (cell_far (p := ⟨a0, 3, none⟩) (nb b1) (.int .i64 b9)).trans a1; replace a2 := (cell_far (p := ⟨a0, 3, none⟩) (nb b1) (.int .i64 b9)).trans a2; replace a3 := (cell_far (p := ⟨a0, 3, none⟩) (nb b1) (.int .i64 b9)).trans a3; replace a4 := (cell_far (p := ⟨a0, 3, none⟩) (nb b1) (.int .i64 b9)).trans a4; replace a5 := (cell_far (p := ⟨a0, 3, none⟩) (nb b1) (.int .i64 b9)).trans a5; replace a1 := (cell_far (p := ⟨a0, 4, none⟩) (nb b2) (.slice (some b3) b5.length d9)).trans a1; replace a2 := (cell_far (p := ⟨a0, 4, none⟩) (nb b2) (.slice (some b3) b5.length d9)).trans a2; replace a3 := (cell_far (p := ⟨a0, 4, none⟩) (nb b2) (.slice (some b3) b5.length d9)).trans a3; replace a4 := (cell_far (p := ⟨a0, 4, none⟩) (nb b2) (.slice (some b3) b5.length d9)).trans a4; replace a5 := (cell_far (p := ⟨a0, 4, none⟩) (nb b2) (.slice (some b3) b5.length d9)).trans a5; clear a8 a9 b0 b1 b2; replace d1 := eq_true d1; replace d2 := eq_true d2))
    go_ret
    exact ⟨er, pB HB.out⟩
   rw [if_neg c4] at H
   exact absurd H (by simp)
  rw [if_neg c3] at H
  obtain ⟨g5, g6⟩ := qf c3
  obtain rfl := Option.some.inj H
  go_enter Try.func16, Try.ntmps16
  go_wp2_with (first | ((with_reducible refine gD 5 ?_); (try (refine q1g (by rfl) ?_; dsimp only)); refine Kd.S_lit k49 _ 49 ?hg (N := 5) ?hd (xs := ([(⟨([] : List Int), 1, 0, 1⟩ : S49)] : List (S49))) (inner := [.slice none 0 0, .int .i64 1, .int .i64 0, .int .i64 1]) (ok := fun _ => True) (okp := fun _ => True) ?hr ?hp (fun _ hk => hk) trivial (Below.refl _ _) (Nat.le_refl _) (by simp) ?_; (case hd => rfl); (case hg => rfl); (case hr => first | (go_simp; done) | (go_simp; rfl)); (case hp => exact (Reps.c4 (show Kd.M k49 _ _ _ (⟨([] : List Int), 1, 0, 1⟩ : S49) [.slice none 0 0, .int .i64 1, .int .i64 0, .int .i64 1] from (k49_mkM _ _ _ (⟨([] : List Int), 1, 0, 1⟩ : S49) (Kd.R_nil _ _ _ _ _))) (Reps.none _ _))); intro e9 l0 e3 hb e7 d0; clear e7 d0; (first | rw [← c9.out] at e3 | (simp only [Int.reduceToNat] at e3; rw [← c9.out] at e3)); have a7 := am (Kd.S_lower e3 (q0m (pB HB.out))); replace HB := bS HB hb; clear hb e3; obtain ⟨g0, h0, h8⟩ := Kd.S_slice a7.out; subst h8) | ((with_reducible refine gC 10 ?_); refine gL 7 Try.func10 #[.string (⟨#[107]⟩ : ByteArray), .agg #[.string (⟨#[97]⟩ : ByteArray), .slice g0 y241.length h0]] ?_; (with_reducible refine (Gt.calls k (⟨#[107]⟩ : ByteArray) (⟨#[97]⟩ : ByteArray) (fun k_ => True) _ _ y241 b6 b7 b8 b9 b5 e5 _ ?side1 A1.out).mono ?_); (case side1 => exact Kd.S_V (a7.out)); rintro e l1 ⟨f1, f2, rfl, e0, e1, hb⟩; refine ⟨_, rfl, ?_⟩; replace a7 := am (Kd.S_below (pS a7.out) hb); have b4 := vL (ok' := fun k_ => True) HB e0 (fun k_ c8 => trivial); have a6 := vL (ok' := fun k_ => True) HB e1 (fun k_ c8 => trivial); replace HB := bS HB hb; (try clear hb); (try clear e0); (try clear e1)) | ((with_reducible refine gD 1 ?_); (try (refine q1g (by rfl) ?_; dsimp only)); refine bz 1 #[.string (⟨#[]⟩ : ByteArray), .string (⟨#[]⟩ : ByteArray), .slice none 0 0, .int .i64 0, .slice none 0 0] 27 HB ?_; clear HB; intro a0 hg l2 hb c6 d7 HB; replace a7 := am (Kd.S_below (pS a7.out) hb); replace b4 := vE b4 hg hb; replace a6 := vE a6 hg hb; clear hb hg; have f7 := y5 c6; obtain ⟨i8, j5, h9⟩ := Kd.V_slice b4.out; subst h9; obtain ⟨i9, j6, i0⟩ := Kd.V_slice a6.out; subst i0))
  go_ret
  exact ⟨er, pB HB.out⟩
 rw [if_neg c2] at H
 obtain ⟨g3, g4⟩ := qf c2
 obtain rfl := Option.some.inj H
 go_enter Try.func16, Try.ntmps16
 go_wp2_with (first | ((with_reducible refine gD 5 ?_); (try (refine q1g (by rfl) ?_; dsimp only)); refine Kd.S_lit k49 _ 49 ?hg (N := 5) ?hd (xs := ([(⟨([] : List Int), 1, 0, 1⟩ : S49)] : List (S49))) (inner := [.slice none 0 0, .int .i64 1, .int .i64 0, .int .i64 1]) (ok := fun _ => True) (okp := fun _ => True) ?hr ?hp (fun _ hk => hk) trivial (Below.refl _ _) (Nat.le_refl _) (by simp) ?_; (case hd => rfl); (case hg => rfl); (case hr => first | (go_simp; done) | (go_simp; rfl)); (case hp => exact (Reps.c4 (show Kd.M k49 _ _ _ (⟨([] : List Int), 1, 0, 1⟩ : S49) [.slice none 0 0, .int .i64 1, .int .i64 0, .int .i64 1] from (k49_mkM _ _ _ (⟨([] : List Int), 1, 0, 1⟩ : S49) (Kd.R_nil _ _ _ _ _))) (Reps.none _ _))); intro e9 l3 e4 hb e7 d0; clear e7 d0; (first | rw [← c9.out] at e4 | (simp only [Int.reduceToNat] at e4; rw [← c9.out] at e4)); have a7 := am (Kd.S_lower e4 (q0m (pB HB.out))); replace HB := bS HB hb; clear hb e4; obtain ⟨g1, h2, i1⟩ := Kd.S_slice a7.out; subst i1) | ((with_reducible refine gC 10 ?_); refine gL 7 Try.func10 #[.string (⟨#[107]⟩ : ByteArray), .agg #[.string (⟨#[97]⟩ : ByteArray), .slice g1 y241.length h2]] ?_; (with_reducible refine (Gt.calls k (⟨#[107]⟩ : ByteArray) (⟨#[97]⟩ : ByteArray) (fun k_ => True) _ _ y241 b6 b7 b8 b9 b5 e5 _ ?side1 A1.out).mono ?_); (case side1 => exact Kd.S_V (a7.out)); rintro e l4 ⟨f1, f2, rfl, e0, e1, hb⟩; refine ⟨_, rfl, ?_⟩; replace a7 := am (Kd.S_below (pS a7.out) hb); have b4 := vL (ok' := fun k_ => True) HB e0 (fun k_ c8 => trivial); have a6 := vL (ok' := fun k_ => True) HB e1 (fun k_ c8 => trivial); replace HB := bS HB hb; (try clear hb); (try clear e0); (try clear e1)) | ((with_reducible refine gD 1 ?_); (try (refine q1g (by rfl) ?_; dsimp only)); refine bz 1 #[.string (⟨#[]⟩ : ByteArray), .string (⟨#[]⟩ : ByteArray), .slice none 0 0, .int .i64 0, .slice none 0 0] 27 HB ?_; clear HB; intro a0 hg l5 hb c6 d7 HB; replace a7 := am (Kd.S_below (pS a7.out) hb); replace b4 := vE b4 hg hb; replace a6 := vE a6 hg hb; clear hb hg; have f8 := y5 c6; obtain ⟨j0, j7, i2⟩ := Kd.V_slice b4.out; subst i2; obtain ⟨j1, j8, i3⟩ := Kd.V_slice a6.out; subst i3))
 go_ret
 exact ⟨er, pB HB.out⟩
def Fm.l0 : Nat → Int → List (S51) → Int → Int → Int → Int → Int → Int → ByteArray → ByteArray → ByteArray → List (S49) → Int → List (S51) → Option (ByteArray × ByteArray × (List (S49)) × Int × (List (S51)))
 | 0, _, _, _, _, _, _, _, _, _, _, _, _, _, _ => none
 | k + 1, x1, b1, b2, b0, a1, a2, a3, a4, a5, a6, a7, a8, a9, a0 => if b0 < b2 then (if 0 ≤ b0 then (if b0 < (b1.length : Int) then (if b0 = x1 then (if a0.length < 2932031007402 then (Fm.l0 k x1 b1 b2 (wrap64 (b0 + 1)) a1 a2 a3 a4 a5 a6 a7 a8 a9 (a0 ++ [(⟨a1, a2, a3, a4, a5⟩ : S51)])) else (none)) else (if a0.length < 2932031007402 then (Fm.l0 k x1 b1 b2 (wrap64 (b0 + 1)) a1 a2 a3 a4 a5 a6 a7 a8 a9 (a0 ++ [(⟨(q0a b1 b0).f0, (q0a b1 b0).f1, (q0a b1 b0).f2, (q0a b1 b0).f3, (q0a b1 b0).f4⟩ : S51)])) else (none))) else (none)) else (none)) else (some (a6, a7, a8, a9, a0))
def Fm.f (k : Nat) (a2 : ByteArray) (a3 : ByteArray) (b0 : List (S49)) (a4 : Int) (a0 : List (S51)) (a1 : Int) (a5 : Int) (a6 : Int) (a7 : Int) (a8 : Int) (a9 : ByteArray) : Option (ByteArray × ByteArray × (List (S49)) × Int × (List (S51))) := Fm.l0 k a1 a0 (a0.length : Int) 0 a5 a6 a7 a8 a9 a2 a3 b0 a4 ([] : List (S51))
set_option maxHeartbeats 8000000 in
set_option maxRecDepth 100000 in
theorem Fm.calls (k : Nat) (d8 : ByteArray) (d9 : ByteArray) (e1 : Nat → Prop) (c9 : Option Addr) (d0 : Nat) (b6 : List (S49)) (e0 : Int) (k6 : Option Addr) (g2 : Nat) (a3 : List (S51)) (a1 : Int) (b8 : Int) (b9 : Int) (c6 : Int) (c7 : Int) (c8 : ByteArray) (r1 : ByteArray) (r2 : ByteArray) (r3 : List (S49)) (r4 : Int) (r5 : List (S51)) (w : World) (s9 : Kd.V k49 49 w w.heap.size (fun k_ => e1 k_) (.slice c9 b6.length d0) b6) (q7 : Kd.C k51 w k6 a3.length a3) (q6 : a3.length ≤ g2) (h : Fm.f k d8 d9 b6 e0 a3 a1 b8 b9 c6 c7 c8 = some (r1, r2, r3, r4, r5)) :
  Calls Try.prog 48 #[.agg #[.string d8, .string d9, .slice c9 b6.length d0, .int .i64 e0, .slice k6 a3.length g2], .int .i64 a1, .agg #[.int .i64 b8, .int .i64 b9, .int .i64 c6, .int .i64 c7, .string c8]] w fun e w' => ∃ C2 x9 : Value, e = .returned (.agg #[.string r1, .string r2, C2, .int .i64 r4, x9]) ∧ Kd.V k49 49 w' w.heap.size (fun k_ => (e1 k_ ∨ w.heap.size ≤ k_) ∧ some k_ ≠ (x9 : Value).ownBlock) C2 r3 ∧ Kd.R k51 51 w' w.heap.size (fun k_ => (w.heap.size ≤ k_)) x9 r5 ∧ Below w.heap.size w w' := by
 have C6 := Try.underlying27
 have C7 := Try.underlying51
 have C5 := Try.underlying24
 have d5 := am (show Kd.V k49 49 w w.heap.size (fun k_ => (e1 k_ ∨ w.heap.size ≤ k_)) (.slice c9 b6.length d0) b6 from Kd.V_mono s9 (fun k_ hk => .inl hk))
 have q4 := am q7
 have y9 := am q6
 clear q7 q6
 have HB := am (Below.refl w.heap.size w)
 unfold Fm.f at h
 have H := h
 clear h
 have H' := am H
 clear H
 go_enter Try.func48, Try.ntmps48
 go_wp2_with (first | ((with_reducible refine gD 3 ?_); refine bz 3 #[.string d8, .string d9, .slice c9 b6.length d0, .int .i64 e0, .slice k6 a3.length g2] 27 HB ?_; clear HB; intro d6 hg w4 hb a7 y0 HB; replace d5 := vE d5 hg hb; clear hb hg) | ((with_reducible refine gD 5 ?_); refine bz 5 #[.int .i64 b8, .int .i64 b9, .int .i64 c6, .int .i64 c7, .string c8] 51 HB ?_; clear HB; intro d1 hg w5 hb a9 y6 HB; replace d5 := vE d5 hg hb; have j2 := nL hg a7; have j5 := nG hg a7; replace a7 := kB a7 hb; clear hb hg) | ((with_reducible refine gD 6 ?_); refine bz 6 #[.string (⟨#[]⟩ : ByteArray), .string (⟨#[]⟩ : ByteArray), .slice none 0 0, .int .i64 0, .slice none 0 0] 27 HB ?_; clear HB; intro d2 hg w6 hb b0 y7 HB; replace d5 := vE d5 hg hb; have j3 := nL hg a7; have j9 := nG hg a7; replace a7 := kB a7 hb; have j6 := nL hg a9; have k0 := nG hg a9; replace a9 := kB a9 hb; clear hb hg; have C3 := nn j2; have C4 := nn j3; have r6 := y5 a7) | ((with_reducible refine gD 7 ?_); refine bz 7 #[.string (⟨#[]⟩ : ByteArray), .string (⟨#[]⟩ : ByteArray), .slice none 0 0, .int .i64 0, .slice none 0 0] 27 HB ?_; clear HB; intro d7 hg D1 hb a8 y8 HB; replace d5 := vE d5 hg hb; have r7 := nL hg a7; have d3 := nG hg a7; replace a7 := kB a7 hb; have j7 := nL hg a9; have e7 := nG hg a9; replace a9 := kB a9 hb; have r8 := nL hg b0; have d4 := nG hg b0; replace b0 := kB b0 hb; clear hb hg; have z7 := nn d3; have z8 := nn e7; have z9 := nn d4; have k7 := y5 a8; have k8 := y5 a7))
 go_loopg [20] k (fun kq D0 w' => ∃ (a2 : Int) (b1 : List (S51)) (b7 : Value), D0 = .int .i64 a2 ∧ q0e (Fm.l0 kq a1 a3 (a3.length : Int) a2 b8 b9 c6 c7 c8 d8 d9 b6 e0 b1 = some (r1, r2, r3, r4, r5)) ∧ q0e (kq ≤ k) ∧ q0e (Kd.V k49 49 w' w.heap.size (fun k_ => (e1 k_ ∨ w.heap.size ≤ k_) ∧ some k_ ≠ (b7 : Value).ownBlock ∧ k_ ≠ d6 ∧ k_ ≠ d1 ∧ k_ ≠ d2 ∧ k_ ≠ d7) (.slice c9 b6.length d0) b6) ∧ q0e (Kd.V k49 49 w' w.heap.size (fun k_ => (e1 k_ ∨ w.heap.size ≤ k_) ∧ some k_ ≠ (b7 : Value).ownBlock ∧ k_ ≠ d6 ∧ k_ ≠ d1 ∧ k_ ≠ d2 ∧ k_ ≠ d7) (.slice c9 b6.length d0) b6) ∧ q0e (Kd.R k51 51 w' w.heap.size (fun k_ => (w.heap.size ≤ k_) ∧ k_ ≠ d1) b7 b1) ∧ q0e (w'.heap[d6]? = some (.cells #[.string d8, .string d9, (.slice c9 b6.length d0), .int .i64 e0, (.slice k6 a3.length g2)] 27 (0, 0))) ∧ q0e (w'.heap[d1]? = some (.cells #[.int .i64 b8, .int .i64 b9, .int .i64 c6, .int .i64 c7, .string c8] 51 (0, 0))) ∧ q0e (w'.heap[d2]? = some (.cells #[.string (⟨#[]⟩ : ByteArray), .string (⟨#[]⟩ : ByteArray), (.slice none 0 0), .int .i64 0, (.slice none 0 0)] 27 (0, 0))) ∧ q0e (w'.heap[d7]? = some (.cells #[.string d8, .string d9, (.slice c9 b6.length d0), .int .i64 e0, b7] 27 (0, 0))) ∧ q0e (Below w.heap.size w w'))
 case atStart => exact ⟨(0), (([] : List (S51))), (.slice none 0 0), el, H', ⟨Nat.le_refl _⟩, ⟨by exact Kd.V_mono (pV d5.out) (fun _ hk => ⟨hk.1.1.1.1, ⟨(by simp [Value.ownBlock]), ⟨hk.1.1.1.2, ⟨hk.1.1.2, ⟨hk.1.2, hk.2⟩⟩⟩⟩⟩)⟩, ⟨by exact Kd.V_mono (pV d5.out) (fun _ hk => ⟨hk.1.1.1.1, ⟨(by simp [Value.ownBlock]), ⟨hk.1.1.1.2, ⟨hk.1.1.2, ⟨hk.1.2, hk.2⟩⟩⟩⟩⟩)⟩, ⟨by first | exact Kd.R_nil _ _ _ _ _ | exact Kd.N_nil _ _ _ _ _ | exact Kd.V_nil _ _ _ _ _ | exact Kd.Q_nil _ _ _ _ _ | exact Kd.S_nil _ _ _ _ _⟩, ⟨pk a7.out⟩, ⟨pk a9.out⟩, ⟨pk b0.out⟩, ⟨pP a8.out⟩, ⟨pB HB.out⟩⟩
 case round =>
  clear H'
  try clear k7
  try clear k8
  try clear r6
  try clear a7; try clear a9; try clear b0; try clear a8; try clear HB
  obtain ⟨a2, b1, b7, rfl, HA, t0, a6, a5, a4, a7, a9, b0, a8, HB⟩ := hrel
  cases gk with
  | zero => exact absurd HA.out (by simp [Fm.l0])
  | succ k1 =>
   have H := HA.out
   clear HA
   simp only [Fm.l0] at H
   by_cases r9 : a2 < (a3.length : Int)
   ·
    rw [if_pos r9] at H
    have s5 := decide_eq_true r9
    clear r9
    by_cases t1 : 0 ≤ a2
    ·
     rw [if_pos t1] at H
     have z0 := decide_eq_true t1
     clear t1
     by_cases t2 : a2 < (a3.length : Int)
     ·
      rw [if_pos t2] at H
      have z6 := decide_eq_true t2
      clear t2
      by_cases s6 : a2 = a1
      ·
       rw [if_pos s6] at H
       obtain ⟨s7, s8⟩ := qt s6
       clear s6
       by_cases t3 : b1.length < 2932031007402
       ·
        rw [if_pos t3] at H
        have s1 := am t3
        clear t3
        obtain ⟨y152, hy152⟩ : ∃ y_ : List (S51), y_ = (b1 ++ [(⟨b8, b9, c6, c7, c8⟩ : S51)]) := ⟨_, rfl⟩
        replace H : (Fm.l0 k1 a1 a3 (a3.length : Int) (wrap64 (a2 + 1)) b8 b9 c6 c7 c8 d8 d9 b6 e0 y152) = some (r1, r2, r3, r4, r5) := by first | (rw [hy152]; with_reducible exact H) | (have q8 := (Option.bind_some _ _).symm.trans H; rw [hy152]; with_reducible exact q8) | (have q8 := (Option.bind_some _ _).symm.trans H; with_reducible exact q8) | with_reducible exact H | (rw [hy152]; exact H) | exact H
        have s3 := am hy152
        clear hy152
        have H' := am H
        clear H
        have g3 : 0 ≤ (a2 : Int) := od
        have g4 : a2 < (a3.length : Int) := od
        obtain ⟨g5, q9, e2, e3, e4, e5, e6⟩ := q1j q4.out a2 g3 g4
        cases q9
        replace e2 := bX HB e2
        replace e3 := bX HB e3
        replace e4 := bX HB e4
        replace e5 := bX HB e5
        replace e6 := bX HB e6
        replace g3 := eq_true g3
        replace g4 := eq_true g4
        go_upto_region 5 with ((with_reducible refine gD 9 ?_); refine bz 9 #[.int .i64 0, .int .i64 0, .int .i64 0, .int .i64 0, .string (⟨#[]⟩ : ByteArray)] 51 HB ?_; clear HB; intro a0 hg k4 hb b2 s0 HB; replace a6 := vE a6 hg hb; replace a5 := vE a5 hg hb; replace a4 := am (Kd.R_below (Kd.R_elderB (pR a4.out) a0 (Nat.le_of_eq hg.symm)) hb); have j4 := nL hg a7; have e8 := nG hg a7; replace a7 := kB a7 hb; have j8 := nL hg a9; have e9 := nG hg a9; replace a9 := kB a9 hb; have k2 := nL hg b0; have f5 := nG hg b0; replace b0 := kB b0 hb; have k3 := nL hg a8; have f6 := nG hg a8; replace a8 := kB a8 hb; clear hb hg; have A1 := nn e8; have A2 := nn e9; have A3 := nn f5; have A4 := nn f6; obtain ⟨k9, l1, l2, l3, l4, n5, n6, n7, n8, n9⟩ := y5 b2; have A5 := nn j5; have A6 := nn j6; have A7 := nn j7; obtain ⟨l5, l6, l7, l8, l9, o0, o1, o2, o3, o4⟩ := y5 a9; have A8 := nn d3; have A9 := nn d4; obtain ⟨m0, m1, m2, m3, m4, o5, o6, o7, o8, o9⟩ := y5 a8)
        clear k9 l1 l2 l3 l4 n5 n6 n7 n8 n9 l5 l6 l7 l8 l9 o0 o1 o2 o3 o4 m0 m1 m2 m3 m4 o5 o6 o7 o8 o9
        have g1 := am (show (((((k4.setCell ⟨a0, 0, none⟩ (.int .i64 ((q0a a3 a2).f0))).setCell ⟨a0, 1, none⟩ (.int .i64 ((q0a a3 a2).f1))).setCell ⟨a0, 2, none⟩ (.int .i64 ((q0a a3 a2).f2))).setCell ⟨a0, 3, none⟩ (.int .i64 ((q0a a3 a2).f3))).setCell ⟨a0, 4, none⟩ (.string ((q0a a3 a2).f4))).heap[a0]? = some (.cells #[.int .i64 ((q0a a3 a2).f0), .int .i64 ((q0a a3 a2).f1), .int .i64 ((q0a a3 a2).f2), .int .i64 ((q0a a3 a2).f3), .string ((q0a a3 a2).f4)] 51 (0, 0)) from pP b2.out)
        have f7 := am (show (((((k4.setCell ⟨a0, 0, none⟩ (.int .i64 ((q0a a3 a2).f0))).setCell ⟨a0, 1, none⟩ (.int .i64 ((q0a a3 a2).f1))).setCell ⟨a0, 2, none⟩ (.int .i64 ((q0a a3 a2).f2))).setCell ⟨a0, 3, none⟩ (.int .i64 ((q0a a3 a2).f3))).setCell ⟨a0, 4, none⟩ (.string ((q0a a3 a2).f4))).heap[d6]? = some (.cells #[.string d8, .string d9, .slice c9 b6.length d0, .int .i64 e0, .slice (some g5) a3.length g2] 27 (0, 0)) from pk a7.out)
        have f8 := am (show (((((k4.setCell ⟨a0, 0, none⟩ (.int .i64 ((q0a a3 a2).f0))).setCell ⟨a0, 1, none⟩ (.int .i64 ((q0a a3 a2).f1))).setCell ⟨a0, 2, none⟩ (.int .i64 ((q0a a3 a2).f2))).setCell ⟨a0, 3, none⟩ (.int .i64 ((q0a a3 a2).f3))).setCell ⟨a0, 4, none⟩ (.string ((q0a a3 a2).f4))).heap[d1]? = some (.cells #[.int .i64 b8, .int .i64 b9, .int .i64 c6, .int .i64 c7, .string c8] 51 (0, 0)) from pk a9.out)
        have f9 := am (show (((((k4.setCell ⟨a0, 0, none⟩ (.int .i64 ((q0a a3 a2).f0))).setCell ⟨a0, 1, none⟩ (.int .i64 ((q0a a3 a2).f1))).setCell ⟨a0, 2, none⟩ (.int .i64 ((q0a a3 a2).f2))).setCell ⟨a0, 3, none⟩ (.int .i64 ((q0a a3 a2).f3))).setCell ⟨a0, 4, none⟩ (.string ((q0a a3 a2).f4))).heap[d2]? = some (.cells #[.string (⟨#[]⟩ : ByteArray), .string (⟨#[]⟩ : ByteArray), .slice none 0 0, .int .i64 0, .slice none 0 0] 27 (0, 0)) from pk b0.out)
        have g0 := am (show (((((k4.setCell ⟨a0, 0, none⟩ (.int .i64 ((q0a a3 a2).f0))).setCell ⟨a0, 1, none⟩ (.int .i64 ((q0a a3 a2).f1))).setCell ⟨a0, 2, none⟩ (.int .i64 ((q0a a3 a2).f2))).setCell ⟨a0, 3, none⟩ (.int .i64 ((q0a a3 a2).f3))).setCell ⟨a0, 4, none⟩ (.string ((q0a a3 a2).f4))).heap[d7]? = some (.cells #[.string d8, .string d9, .slice c9 b6.length d0, .int .i64 e0, b7] 27 (0, 0)) from pk a8.out)
        have q5 := am (show Below w.heap.size w (((((k4.setCell ⟨a0, 0, none⟩ (.int .i64 ((q0a a3 a2).f0))).setCell ⟨a0, 1, none⟩ (.int .i64 ((q0a a3 a2).f1))).setCell ⟨a0, 2, none⟩ (.int .i64 ((q0a a3 a2).f2))).setCell ⟨a0, 3, none⟩ (.int .i64 ((q0a a3 a2).f3))).setCell ⟨a0, 4, none⟩ (.string ((q0a a3 a2).f4))) from pB HB.out)
        have b3 := am (show Kd.V k49 49 (((((k4.setCell ⟨a0, 0, none⟩ (.int .i64 ((q0a a3 a2).f0))).setCell ⟨a0, 1, none⟩ (.int .i64 ((q0a a3 a2).f1))).setCell ⟨a0, 2, none⟩ (.int .i64 ((q0a a3 a2).f2))).setCell ⟨a0, 3, none⟩ (.int .i64 ((q0a a3 a2).f3))).setCell ⟨a0, 4, none⟩ (.string ((q0a a3 a2).f4))) w.heap.size _ (.slice c9 b6.length d0) b6 from pV a6.out)
        have b4 := am (show Kd.V k49 49 (((((k4.setCell ⟨a0, 0, none⟩ (.int .i64 ((q0a a3 a2).f0))).setCell ⟨a0, 1, none⟩ (.int .i64 ((q0a a3 a2).f1))).setCell ⟨a0, 2, none⟩ (.int .i64 ((q0a a3 a2).f2))).setCell ⟨a0, 3, none⟩ (.int .i64 ((q0a a3 a2).f3))).setCell ⟨a0, 4, none⟩ (.string ((q0a a3 a2).f4))) w.heap.size _ (.slice c9 b6.length d0) b6 from pV a5.out)
        have b5 := am (show Kd.R k51 51 (((((k4.setCell ⟨a0, 0, none⟩ (.int .i64 ((q0a a3 a2).f0))).setCell ⟨a0, 1, none⟩ (.int .i64 ((q0a a3 a2).f1))).setCell ⟨a0, 2, none⟩ (.int .i64 ((q0a a3 a2).f2))).setCell ⟨a0, 3, none⟩ (.int .i64 ((q0a a3 a2).f3))).setCell ⟨a0, 4, none⟩ (.string ((q0a a3 a2).f4))) w.heap.size _ b7 b1 from pR a4.out)
        clear b2 a7 a9 b0 a8 HB a6 a5 a4
        have b2 := g1
        have a7 := f7
        have a9 := f8
        have b0 := f9
        have a8 := g0
        have HB := q5
        have a6 := b3
        have a5 := b4
        have a4 := b5
        clear g1 f7 f8 f9 g0 q5 b3 b4 b5
        generalize (((((k4.setCell ⟨a0, 0, none⟩ (.int .i64 ((q0a a3 a2).f0))).setCell ⟨a0, 1, none⟩ (.int .i64 ((q0a a3 a2).f1))).setCell ⟨a0, 2, none⟩ (.int .i64 ((q0a a3 a2).f2))).setCell ⟨a0, 3, none⟩ (.int .i64 ((q0a a3 a2).f3))).setCell ⟨a0, 4, none⟩ (.string ((q0a a3 a2).f4))) = q1 at *
        obtain ⟨h7, h8, h9, i0, i1⟩ := ce5 b2.out
        obtain ⟨g6, g7, g8, g9, h0⟩ := ce5 a9.out
        obtain ⟨h2, h3, h4, h5, h6⟩ := ce5 a8.out
        obtain ⟨i7, i8, i9, j0, j1⟩ := z5 b2.out
        obtain ⟨i2, i3, i4, i5, i6⟩ := z5 a8.out
        go_upto_region 7 with fail
        clear h7 h8 h9 i0 i1 g6 g7 g8 g9 h0 h2 h3 h4 h5 h6 i7 i8 i9 j0 j1 i2 i3 i4 i5 i6
        have g1 := am (show (((((q1.setCell ⟨a0, 0, none⟩ (.int .i64 b8)).setCell ⟨a0, 1, none⟩ (.int .i64 b9)).setCell ⟨a0, 2, none⟩ (.int .i64 c6)).setCell ⟨a0, 3, none⟩ (.int .i64 c7)).setCell ⟨a0, 4, none⟩ (.string c8)).heap[a0]? = some (.cells #[.int .i64 b8, .int .i64 b9, .int .i64 c6, .int .i64 c7, .string c8] 51 (0, 0)) from pP b2.out)
        have f7 := am (show (((((q1.setCell ⟨a0, 0, none⟩ (.int .i64 b8)).setCell ⟨a0, 1, none⟩ (.int .i64 b9)).setCell ⟨a0, 2, none⟩ (.int .i64 c6)).setCell ⟨a0, 3, none⟩ (.int .i64 c7)).setCell ⟨a0, 4, none⟩ (.string c8)).heap[d6]? = some (.cells #[.string d8, .string d9, .slice c9 b6.length d0, .int .i64 e0, .slice (some g5) a3.length g2] 27 (0, 0)) from pk a7.out)
        have f8 := am (show (((((q1.setCell ⟨a0, 0, none⟩ (.int .i64 b8)).setCell ⟨a0, 1, none⟩ (.int .i64 b9)).setCell ⟨a0, 2, none⟩ (.int .i64 c6)).setCell ⟨a0, 3, none⟩ (.int .i64 c7)).setCell ⟨a0, 4, none⟩ (.string c8)).heap[d1]? = some (.cells #[.int .i64 b8, .int .i64 b9, .int .i64 c6, .int .i64 c7, .string c8] 51 (0, 0)) from pk a9.out)
        have f9 := am (show (((((q1.setCell ⟨a0, 0, none⟩ (.int .i64 b8)).setCell ⟨a0, 1, none⟩ (.int .i64 b9)).setCell ⟨a0, 2, none⟩ (.int .i64 c6)).setCell ⟨a0, 3, none⟩ (.int .i64 c7)).setCell ⟨a0, 4, none⟩ (.string c8)).heap[d2]? = some (.cells #[.string (⟨#[]⟩ : ByteArray), .string (⟨#[]⟩ : ByteArray), .slice none 0 0, .int .i64 0, .slice none 0 0] 27 (0, 0)) from pk b0.out)
        have g0 := am (show (((((q1.setCell ⟨a0, 0, none⟩ (.int .i64 b8)).setCell ⟨a0, 1, none⟩ (.int .i64 b9)).setCell ⟨a0, 2, none⟩ (.int .i64 c6)).setCell ⟨a0, 3, none⟩ (.int .i64 c7)).setCell ⟨a0, 4, none⟩ (.string c8)).heap[d7]? = some (.cells #[.string d8, .string d9, .slice c9 b6.length d0, .int .i64 e0, b7] 27 (0, 0)) from pk a8.out)
        have q5 := am (show Below w.heap.size w (((((q1.setCell ⟨a0, 0, none⟩ (.int .i64 b8)).setCell ⟨a0, 1, none⟩ (.int .i64 b9)).setCell ⟨a0, 2, none⟩ (.int .i64 c6)).setCell ⟨a0, 3, none⟩ (.int .i64 c7)).setCell ⟨a0, 4, none⟩ (.string c8)) from pB HB.out)
        have b3 := am (show Kd.V k49 49 (((((q1.setCell ⟨a0, 0, none⟩ (.int .i64 b8)).setCell ⟨a0, 1, none⟩ (.int .i64 b9)).setCell ⟨a0, 2, none⟩ (.int .i64 c6)).setCell ⟨a0, 3, none⟩ (.int .i64 c7)).setCell ⟨a0, 4, none⟩ (.string c8)) w.heap.size _ (.slice c9 b6.length d0) b6 from pV a6.out)
        have b4 := am (show Kd.V k49 49 (((((q1.setCell ⟨a0, 0, none⟩ (.int .i64 b8)).setCell ⟨a0, 1, none⟩ (.int .i64 b9)).setCell ⟨a0, 2, none⟩ (.int .i64 c6)).setCell ⟨a0, 3, none⟩ (.int .i64 c7)).setCell ⟨a0, 4, none⟩ (.string c8)) w.heap.size _ (.slice c9 b6.length d0) b6 from pV a5.out)
        have b5 := am (show Kd.R k51 51 (((((q1.setCell ⟨a0, 0, none⟩ (.int .i64 b8)).setCell ⟨a0, 1, none⟩ (.int .i64 b9)).setCell ⟨a0, 2, none⟩ (.int .i64 c6)).setCell ⟨a0, 3, none⟩ (.int .i64 c7)).setCell ⟨a0, 4, none⟩ (.string c8)) w.heap.size _ b7 b1 from pR a4.out)
        clear b2 a7 a9 b0 a8 HB a6 a5 a4
        have b2 := g1
        have a7 := f7
        have a9 := f8
        have b0 := f9
        have a8 := g0
        have HB := q5
        have a6 := b3
        have a5 := b4
        have a4 := b5
        clear g1 f7 f8 f9 g0 q5 b3 b4 b5
        generalize (((((q1.setCell ⟨a0, 0, none⟩ (.int .i64 b8)).setCell ⟨a0, 1, none⟩ (.int .i64 b9)).setCell ⟨a0, 2, none⟩ (.int .i64 c6)).setCell ⟨a0, 3, none⟩ (.int .i64 c7)).setCell ⟨a0, 4, none⟩ (.string c8)) = q2 at *
        obtain ⟨u5, u6, u7, u8, u9⟩ := ce5 b2.out
        obtain ⟨t5, t6, t7, t8, t9⟩ := ce5 a9.out
        obtain ⟨u0, u1, u2, u3, u4⟩ := ce5 a8.out
        obtain ⟨v5, v6, v7, v8, v9⟩ := z5 b2.out
        obtain ⟨v0, v1, v2, v3, v4⟩ := z5 a8.out
        go_wp2_with ((with_reducible refine q2q (b := .append) (xs := #[.tmp 30, .tmp 32]) rfl ?_); at_builtin; refine Kd.R_append k51 (w0 := w) w.heap.size rfl (.tmp 30) (.tmp 32) 25 51 (.agg #[(.int .i64 0), (.int .i64 0), (.int .i64 0), (.int .i64 0), (.string ⟨#[]⟩)]) 48 rfl Try.underlying25 info51 rfl (by decide) (by omega) b7 b1 (⟨b8, b9, c6, c7, c8⟩ : S51) [.int .i64 b8, .int .i64 b9, .int .i64 c6, .int .i64 c7, .string c8] (fun k_ => (w.heap.size ≤ k_) ∧ k_ ≠ d1 ∧ k_ ≠ a0) (fun _ => False) rfl (by first | (go_simp; done) | (go_simp; rfl)) ?aP (fun _ hk => hk.elim) ?aF ?aO ?aB ?aS ?aL ?_; (case aP => exact k51_mkM _ _ _ (⟨b8, b9, c6, c7, c8⟩ : S51)); (case aB => exact (pB HB.out)); (case aF => exact (fun k_ hk => ⟨(Nat.le_trans (q0m (pB HB.out)) hk), Kd.freshB (pk a9.out) k_ hk, Kd.freshB (g := a0) (o := .cells #[.int .i64 b8, .int .i64 b9, .int .i64 c6, .int .i64 c7, .string c8] 51 (0, 0)) (pP b2.out) k_ hk⟩)); (case aO => exact (by exact Kd.R_mono (pR a4.out) (fun _ hk => ⟨hk.1.1, ⟨hk.1.2, hk.2⟩⟩))); (case aS => exact (q0m (pB HB.out))); (case aL => have := s1.out; omega); intro C8 D2 ho hb hg r0; rw [← s3.out] at ho; replace a6 := am (Kd.V_afterv (ok := (fun k_ => (e1 k_ ∨ w.heap.size ≤ k_) ∧ k_ ≠ d6 ∧ k_ ≠ d1 ∧ k_ ≠ d2 ∧ k_ ≠ d7 ∧ k_ ≠ a0)) (by exact Kd.V_mono (pV a6.out) (fun _ hk => ⟨⟨hk.1.1, ⟨hk.1.2.2.1, ⟨hk.1.2.2.2.1, ⟨hk.1.2.2.2.2.1, ⟨hk.1.2.2.2.2.2, hk.2⟩⟩⟩⟩⟩, hk.1.2.1⟩)) hg r0); replace a5 := am (Kd.V_afterv (ok := (fun k_ => (e1 k_ ∨ w.heap.size ≤ k_) ∧ k_ ≠ d6 ∧ k_ ≠ d1 ∧ k_ ≠ d2 ∧ k_ ≠ d7 ∧ k_ ≠ a0)) (by exact Kd.V_mono (pV a5.out) (fun _ hk => ⟨⟨hk.1.1, ⟨hk.1.2.2.1, ⟨hk.1.2.2.2.1, ⟨hk.1.2.2.2.2.1, ⟨hk.1.2.2.2.2.2, hk.2⟩⟩⟩⟩⟩, hk.1.2.1⟩)) hg r0); replace a7 := am (q1n (pk a7.out) hg (Kd.R_ne a4.out a7.out (by decide))); replace a9 := am (q1n (pk a9.out) hg (Kd.R_away a4.out (fun _ hk => hk.1.2))); replace b0 := am (q1n (pk b0.out) hg (Kd.R_ne a4.out b0.out (by decide))); replace a8 := am (q1n (pk a8.out) hg (Kd.R_ne a4.out a8.out (by decide))); replace b2 := am (q1n (g := a0) (o := .cells #[.int .i64 b8, .int .i64 b9, .int .i64 c6, .int .i64 c7, .string c8] 51 (0, 0)) (pP b2.out) hg (Kd.R_away a4.out (fun _ hk => hk.2))); replace HB := am (hb); have q0 := am (ho); clear a4 ho hb hg r0; obtain ⟨w9, x3, x6⟩ := Kd.R_slice q0.out; subst x6; have w2 := y5 a8)
        go_roundg k1
        case measure => have := t0.out; omega
        case rel => exact ⟨(wrap64 (a2 + 1)), (y152), (.slice w9 y152.length x3), el, H', ⟨by have := t0.out; omega⟩, (vM a6), (vM a5), ⟨by exact Kd.R_mono (pR (Kd.R_types q0.out a8.out (by decide))) (fun _ hk => ⟨hk.1.1, hk.1.2.1⟩)⟩, ⟨pk a7.out⟩, ⟨pk a9.out⟩, ⟨pk b0.out⟩, ⟨pP a8.out⟩, ⟨pB HB.out⟩⟩
       rw [if_neg t3] at H
       exact absurd H (by simp)
      rw [if_neg s6] at H
      obtain ⟨s7, s8⟩ := qf s6
      by_cases t4 : b1.length < 2932031007402
      ·
       rw [if_pos t4] at H
       have s2 := am t4
       clear t4
       obtain ⟨y155, hy155⟩ : ∃ y_ : List (S51), y_ = (b1 ++ [(⟨(q0a a3 a2).f0, (q0a a3 a2).f1, (q0a a3 a2).f2, (q0a a3 a2).f3, (q0a a3 a2).f4⟩ : S51)]) := ⟨_, rfl⟩
       replace H : (Fm.l0 k1 a1 a3 (a3.length : Int) (wrap64 (a2 + 1)) b8 b9 c6 c7 c8 d8 d9 b6 e0 y155) = some (r1, r2, r3, r4, r5) := by first | (rw [hy155]; with_reducible exact H) | (have q8 := (Option.bind_some _ _).symm.trans H; rw [hy155]; with_reducible exact q8) | (have q8 := (Option.bind_some _ _).symm.trans H; with_reducible exact q8) | with_reducible exact H | (rw [hy155]; exact H) | exact H
       have s4 := am hy155
       clear hy155
       have H' := am H
       clear H
       have g3 : 0 ≤ (a2 : Int) := od
       have g4 : a2 < (a3.length : Int) := od
       obtain ⟨g5, q9, e2, e3, e4, e5, e6⟩ := q1j q4.out a2 g3 g4
       cases q9
       replace e2 := bX HB e2
       replace e3 := bX HB e3
       replace e4 := bX HB e4
       replace e5 := bX HB e5
       replace e6 := bX HB e6
       replace g3 := eq_true g3
       replace g4 := eq_true g4
       go_upto_region 5 with ((with_reducible refine gD 9 ?_); refine bz 9 #[.int .i64 0, .int .i64 0, .int .i64 0, .int .i64 0, .string (⟨#[]⟩ : ByteArray)] 51 HB ?_; clear HB; intro a0 hg k5 hb b2 s0 HB; replace a6 := vE a6 hg hb; replace a5 := vE a5 hg hb; replace a4 := am (Kd.R_below (Kd.R_elderB (pR a4.out) a0 (Nat.le_of_eq hg.symm)) hb); have j4 := nL hg a7; have e8 := nG hg a7; replace a7 := kB a7 hb; have j8 := nL hg a9; have e9 := nG hg a9; replace a9 := kB a9 hb; have k2 := nL hg b0; have f5 := nG hg b0; replace b0 := kB b0 hb; have k3 := nL hg a8; have f6 := nG hg a8; replace a8 := kB a8 hb; clear hb hg; have B0 := nn e8; have B1 := nn e9; have B2 := nn f5; have B3 := nn f6; obtain ⟨m5, m6, m7, m8, m9, p0, p1, p2, p3, p4⟩ := y5 b2; have B4 := nn d3; have B5 := nn e7; have B6 := nn d4; obtain ⟨n0, n1, n2, n3, n4, p5, p6, p7, p8, p9⟩ := y5 a8)
       clear m5 m6 m7 m8 m9 p0 p1 p2 p3 p4 n0 n1 n2 n3 n4 p5 p6 p7 p8 p9
       have g1 := am (show (((((k5.setCell ⟨a0, 0, none⟩ (.int .i64 ((q0a a3 a2).f0))).setCell ⟨a0, 1, none⟩ (.int .i64 ((q0a a3 a2).f1))).setCell ⟨a0, 2, none⟩ (.int .i64 ((q0a a3 a2).f2))).setCell ⟨a0, 3, none⟩ (.int .i64 ((q0a a3 a2).f3))).setCell ⟨a0, 4, none⟩ (.string ((q0a a3 a2).f4))).heap[a0]? = some (.cells #[.int .i64 ((q0a a3 a2).f0), .int .i64 ((q0a a3 a2).f1), .int .i64 ((q0a a3 a2).f2), .int .i64 ((q0a a3 a2).f3), .string ((q0a a3 a2).f4)] 51 (0, 0)) from pP b2.out)
       have f7 := am (show (((((k5.setCell ⟨a0, 0, none⟩ (.int .i64 ((q0a a3 a2).f0))).setCell ⟨a0, 1, none⟩ (.int .i64 ((q0a a3 a2).f1))).setCell ⟨a0, 2, none⟩ (.int .i64 ((q0a a3 a2).f2))).setCell ⟨a0, 3, none⟩ (.int .i64 ((q0a a3 a2).f3))).setCell ⟨a0, 4, none⟩ (.string ((q0a a3 a2).f4))).heap[d6]? = some (.cells #[.string d8, .string d9, .slice c9 b6.length d0, .int .i64 e0, .slice (some g5) a3.length g2] 27 (0, 0)) from pk a7.out)
       have f8 := am (show (((((k5.setCell ⟨a0, 0, none⟩ (.int .i64 ((q0a a3 a2).f0))).setCell ⟨a0, 1, none⟩ (.int .i64 ((q0a a3 a2).f1))).setCell ⟨a0, 2, none⟩ (.int .i64 ((q0a a3 a2).f2))).setCell ⟨a0, 3, none⟩ (.int .i64 ((q0a a3 a2).f3))).setCell ⟨a0, 4, none⟩ (.string ((q0a a3 a2).f4))).heap[d1]? = some (.cells #[.int .i64 b8, .int .i64 b9, .int .i64 c6, .int .i64 c7, .string c8] 51 (0, 0)) from pk a9.out)
       have f9 := am (show (((((k5.setCell ⟨a0, 0, none⟩ (.int .i64 ((q0a a3 a2).f0))).setCell ⟨a0, 1, none⟩ (.int .i64 ((q0a a3 a2).f1))).setCell ⟨a0, 2, none⟩ (.int .i64 ((q0a a3 a2).f2))).setCell ⟨a0, 3, none⟩ (.int .i64 ((q0a a3 a2).f3))).setCell ⟨a0, 4, none⟩ (.string ((q0a a3 a2).f4))).heap[d2]? = some (.cells #[.string (⟨#[]⟩ : ByteArray), .string (⟨#[]⟩ : ByteArray), .slice none 0 0, .int .i64 0, .slice none 0 0] 27 (0, 0)) from pk b0.out)
       have g0 := am (show (((((k5.setCell ⟨a0, 0, none⟩ (.int .i64 ((q0a a3 a2).f0))).setCell ⟨a0, 1, none⟩ (.int .i64 ((q0a a3 a2).f1))).setCell ⟨a0, 2, none⟩ (.int .i64 ((q0a a3 a2).f2))).setCell ⟨a0, 3, none⟩ (.int .i64 ((q0a a3 a2).f3))).setCell ⟨a0, 4, none⟩ (.string ((q0a a3 a2).f4))).heap[d7]? = some (.cells #[.string d8, .string d9, .slice c9 b6.length d0, .int .i64 e0, b7] 27 (0, 0)) from pk a8.out)
       have q5 := am (show Below w.heap.size w (((((k5.setCell ⟨a0, 0, none⟩ (.int .i64 ((q0a a3 a2).f0))).setCell ⟨a0, 1, none⟩ (.int .i64 ((q0a a3 a2).f1))).setCell ⟨a0, 2, none⟩ (.int .i64 ((q0a a3 a2).f2))).setCell ⟨a0, 3, none⟩ (.int .i64 ((q0a a3 a2).f3))).setCell ⟨a0, 4, none⟩ (.string ((q0a a3 a2).f4))) from pB HB.out)
       have b3 := am (show Kd.V k49 49 (((((k5.setCell ⟨a0, 0, none⟩ (.int .i64 ((q0a a3 a2).f0))).setCell ⟨a0, 1, none⟩ (.int .i64 ((q0a a3 a2).f1))).setCell ⟨a0, 2, none⟩ (.int .i64 ((q0a a3 a2).f2))).setCell ⟨a0, 3, none⟩ (.int .i64 ((q0a a3 a2).f3))).setCell ⟨a0, 4, none⟩ (.string ((q0a a3 a2).f4))) w.heap.size _ (.slice c9 b6.length d0) b6 from pV a6.out)
       have b4 := am (show Kd.V k49 49 (((((k5.setCell ⟨a0, 0, none⟩ (.int .i64 ((q0a a3 a2).f0))).setCell ⟨a0, 1, none⟩ (.int .i64 ((q0a a3 a2).f1))).setCell ⟨a0, 2, none⟩ (.int .i64 ((q0a a3 a2).f2))).setCell ⟨a0, 3, none⟩ (.int .i64 ((q0a a3 a2).f3))).setCell ⟨a0, 4, none⟩ (.string ((q0a a3 a2).f4))) w.heap.size _ (.slice c9 b6.length d0) b6 from pV a5.out)
       have b5 := am (show Kd.R k51 51 (((((k5.setCell ⟨a0, 0, none⟩ (.int .i64 ((q0a a3 a2).f0))).setCell ⟨a0, 1, none⟩ (.int .i64 ((q0a a3 a2).f1))).setCell ⟨a0, 2, none⟩ (.int .i64 ((q0a a3 a2).f2))).setCell ⟨a0, 3, none⟩ (.int .i64 ((q0a a3 a2).f3))).setCell ⟨a0, 4, none⟩ (.string ((q0a a3 a2).f4))) w.heap.size _ b7 b1 from pR a4.out)
       clear b2 a7 a9 b0 a8 HB a6 a5 a4
       have b2 := g1
       have a7 := f7
       have a9 := f8
       have b0 := f9
       have a8 := g0
       have HB := q5
       have a6 := b3
       have a5 := b4
       have a4 := b5
       clear g1 f7 f8 f9 g0 q5 b3 b4 b5
       generalize (((((k5.setCell ⟨a0, 0, none⟩ (.int .i64 ((q0a a3 a2).f0))).setCell ⟨a0, 1, none⟩ (.int .i64 ((q0a a3 a2).f1))).setCell ⟨a0, 2, none⟩ (.int .i64 ((q0a a3 a2).f2))).setCell ⟨a0, 3, none⟩ (.int .i64 ((q0a a3 a2).f3))).setCell ⟨a0, 4, none⟩ (.string ((q0a a3 a2).f4))) = q1 at *
       obtain ⟨h7, h8, h9, i0, i1⟩ := ce5 b2.out
       obtain ⟨g6, g7, g8, g9, h0⟩ := ce5 a9.out
       obtain ⟨h2, h3, h4, h5, h6⟩ := ce5 a8.out
       obtain ⟨i7, i8, i9, j0, j1⟩ := z5 b2.out
       obtain ⟨i2, i3, i4, i5, i6⟩ := z5 a8.out
       go_wp2_with ((with_reducible refine q2q (b := .append) (xs := #[.tmp 30, .tmp 32]) rfl ?_); at_builtin; refine Kd.R_append k51 (w0 := w) w.heap.size rfl (.tmp 30) (.tmp 32) 25 51 (.agg #[(.int .i64 0), (.int .i64 0), (.int .i64 0), (.int .i64 0), (.string ⟨#[]⟩)]) 48 rfl Try.underlying25 info51 rfl (by decide) (by omega) b7 b1 (⟨(q0a a3 a2).f0, (q0a a3 a2).f1, (q0a a3 a2).f2, (q0a a3 a2).f3, (q0a a3 a2).f4⟩ : S51) [.int .i64 ((q0a a3 a2).f0), .int .i64 ((q0a a3 a2).f1), .int .i64 ((q0a a3 a2).f2), .int .i64 ((q0a a3 a2).f3), .string ((q0a a3 a2).f4)] (fun k_ => (w.heap.size ≤ k_) ∧ k_ ≠ d1 ∧ k_ ≠ a0) (fun _ => False) rfl (by first | (go_simp; done) | (go_simp; rfl)) ?aP (fun _ hk => hk.elim) ?aF ?aO ?aB ?aS ?aL ?_; (case aP => exact k51_mkM _ _ _ (⟨(q0a a3 a2).f0, (q0a a3 a2).f1, (q0a a3 a2).f2, (q0a a3 a2).f3, (q0a a3 a2).f4⟩ : S51)); (case aB => exact (pB HB.out)); (case aF => exact (fun k_ hk => ⟨(Nat.le_trans (q0m (pB HB.out)) hk), Kd.freshB (pk a9.out) k_ hk, Kd.freshB (g := a0) (o := .cells #[.int .i64 ((q0a a3 a2).f0), .int .i64 ((q0a a3 a2).f1), .int .i64 ((q0a a3 a2).f2), .int .i64 ((q0a a3 a2).f3), .string ((q0a a3 a2).f4)] 51 (0, 0)) (pP b2.out) k_ hk⟩)); (case aO => exact (by exact Kd.R_mono (pR a4.out) (fun _ hk => ⟨hk.1.1, ⟨hk.1.2, hk.2⟩⟩))); (case aS => exact (q0m (pB HB.out))); (case aL => have := s2.out; omega); intro C9 D3 ho hb hg r0; rw [← s4.out] at ho; replace a6 := am (Kd.V_afterv (ok := (fun k_ => (e1 k_ ∨ w.heap.size ≤ k_) ∧ k_ ≠ d6 ∧ k_ ≠ d1 ∧ k_ ≠ d2 ∧ k_ ≠ d7 ∧ k_ ≠ a0)) (by exact Kd.V_mono (pV a6.out) (fun _ hk => ⟨⟨hk.1.1, ⟨hk.1.2.2.1, ⟨hk.1.2.2.2.1, ⟨hk.1.2.2.2.2.1, ⟨hk.1.2.2.2.2.2, hk.2⟩⟩⟩⟩⟩, hk.1.2.1⟩)) hg r0); replace a5 := am (Kd.V_afterv (ok := (fun k_ => (e1 k_ ∨ w.heap.size ≤ k_) ∧ k_ ≠ d6 ∧ k_ ≠ d1 ∧ k_ ≠ d2 ∧ k_ ≠ d7 ∧ k_ ≠ a0)) (by exact Kd.V_mono (pV a5.out) (fun _ hk => ⟨⟨hk.1.1, ⟨hk.1.2.2.1, ⟨hk.1.2.2.2.1, ⟨hk.1.2.2.2.2.1, ⟨hk.1.2.2.2.2.2, hk.2⟩⟩⟩⟩⟩, hk.1.2.1⟩)) hg r0); replace a7 := am (q1n (pk a7.out) hg (Kd.R_ne a4.out a7.out (by decide))); replace a9 := am (q1n (pk a9.out) hg (Kd.R_away a4.out (fun _ hk => hk.1.2))); replace b0 := am (q1n (pk b0.out) hg (Kd.R_ne a4.out b0.out (by decide))); replace a8 := am (q1n (pk a8.out) hg (Kd.R_ne a4.out a8.out (by decide))); replace b2 := am (q1n (g := a0) (o := .cells #[.int .i64 ((q0a a3 a2).f0), .int .i64 ((q0a a3 a2).f1), .int .i64 ((q0a a3 a2).f2), .int .i64 ((q0a a3 a2).f3), .string ((q0a a3 a2).f4)] 51 (0, 0)) (pP b2.out) hg (Kd.R_away a4.out (fun _ hk => hk.2))); replace HB := am (hb); have q3 := am (ho); clear a4 ho hb hg r0; obtain ⟨x0, x4, x7⟩ := Kd.R_slice q3.out; subst x7; have w3 := y5 a8)
       go_roundg k1
       case measure => have := t0.out; omega
       case rel => exact ⟨(wrap64 (a2 + 1)), (y155), (.slice x0 y155.length x4), el, H', ⟨by have := t0.out; omega⟩, (vM a6), (vM a5), ⟨by exact Kd.R_mono (pR (Kd.R_types q3.out a8.out (by decide))) (fun _ hk => ⟨hk.1.1, hk.1.2.1⟩)⟩, ⟨pk a7.out⟩, ⟨pk a9.out⟩, ⟨pk b0.out⟩, ⟨pP a8.out⟩, ⟨pB HB.out⟩⟩
      rw [if_neg t4] at H
      exact absurd H (by simp)
     rw [if_neg t2] at H
     exact absurd H (by simp)
    rw [if_neg t1] at H
    exact absurd H (by simp)
   rw [if_neg r9] at H
   have s5 := decide_eq_false r9
   clear r9
   simp only [Option.some.injEq, Prod.mk.injEq] at H
   obtain ⟨rfl, rfl, rfl, rfl, rfl⟩ := H
   have B7 := nn d3
   have B8 := nn e7
   have B9 := nn d4
   have w7 := y5 a8
   have C0 := nn j9
   have C1 := nn k0
   have w8 := y5 b0
   obtain ⟨x2, x5, x8⟩ := Kd.R_slice a4.out
   subst x8
   go_wp2
   refine bodyPost_ret (results_cell_row rfl _ _ d2 27 #[.string d8, .string d9, .slice c9 b6.length d0, .int .i64 e0, .slice x2 b1.length x5] (0, 0) _ rfl (pP b0.out) Try.underlying27 rfl (by kernel_rfl)) rfl ?_
   exact ⟨_, _, by first | rfl | (simp [q1b, q1a] <;> rfl) | (simp [*, q1b, q1a] <;> rfl), by exact Kd.V_mono (pV a5.out) (fun _ hk => ⟨hk.1, hk.2.1⟩), by exact Kd.R_mono (pR (Kd.R_types a4.out b0.out (by decide))) (fun _ hk => hk.1.1), pB HB.out⟩
mutual
def Fe.j0 : Nat → List Int → Int → Option (Int)
 | 0, _, _ => none
 | k + 1, x1, x5 => Fe.l0 k x5 x1 (x1.length : Int) 0
def Fe.l0 : Nat → Int → List Int → Int → Int → Option (Int)
 | 0, _, _, _, _ => none
 | k + 1, x5, a1, a2, a0 => if a0 < a2 then (if 0 ≤ a0 then (if a0 < (a1.length : Int) then (if x5 ≥ 1099511627776 then (Fe.j2 k x5 (rd a1 a0) a1 a2 a0 true) else (Fe.j2 k x5 (rd a1 a0) a1 a2 a0 (decide ((rd a1 a0) ≥ 1099511627776)))) else (none)) else (none)) else (if x5 > 1099511627776 then (some 1099511627776) else (some x5))
def Fe.j2 : Nat → Int → Int → List Int → Int → Int → Bool → Option (Int)
 | 0, _, _, _, _, _, _ => none
 | k + 1, x5, x7, a0, a1, a2, a3 => if a3 = true then (some 1099511627776) else (if x7 > 0 then (Fe.l0 k (wrap64 (x5 + x7)) a0 a1 (wrap64 (a2 + 1))) else (Fe.l0 k x5 a0 a1 (wrap64 (a2 + 1))))
end
def Fe.f (k : Nat) (a0 : Int) (l1 : List Int) : Option (Int) := if a0 > 0 then (Fe.j0 k l1 a0) else (Fe.j0 k l1 0)
set_option maxHeartbeats 8000000 in
set_option maxRecDepth 100000 in
theorem Fe.calls (k : Nat) (a0 : Int) (A1 : Option Addr) (c1 : Nat) (l1 : List Int) (r : Int) (w : World) (d4 : Kd.C (Kd.int .i64) w A1 l1.length l1) (d3 : l1.length ≤ c1) (h : Fe.f k a0 l1 = some r) :
  Calls Try.prog 84 #[.int .i64 a0, .slice A1 l1.length c1] w fun e w' => e = .returned (.int .i64 r) ∧ q0r w w' := by
 have d7 := am d4
 have e0 := am d3
 clear d4 d3
 unfold Fe.f at h
 have H := h
 clear h
 have b8 := am H
 clear H
 go_enter Try.func84, Try.ntmps84
 go_upto_if 9 with (fail)
 go_cut [5] (fun v5 wc => ∃ (kq : Nat) (a2 : Int), v5 = .int .i64 a2 ∧ q0e (Fe.j0 kq l1 a2 = some r) ∧ q0e (kq ≤ k) ∧ q0r w wc)
 case first =>
  have H := b8.out
  clear b8
  by_cases c4 : a0 > 0
  ·
   rw [if_pos c4] at H
   have a4 := decide_eq_true c4
   clear c4
   (first | rw [a4] | (simp only [q1u, q1v]; rw [a4]) | skip)
   have H' := am H
   clear H
   go_wp2
   go_meet
   case rel => exact ⟨_, (a0), el, H', ol, by repeat (first | exact q0r.refl _ | apply q0r.step)⟩
  rw [if_neg c4] at H
  have a4 := decide_eq_false c4
  clear c4
  (first | rw [a4] | (simp only [q1u, q1v]; rw [a4]) | skip)
  have H' := am H
  clear H
  go_wp2
  go_meet
  case rel => exact ⟨_, (0), el, H', ol, by repeat (first | exact q0r.refl _ | apply q0r.step)⟩
 case rest =>
  clear b8
  try clear c1
  obtain ⟨kq, a2, rfl, HA, a9, ⟨e1, rfl⟩⟩ := hcut
  cases kq with
  | zero => exact absurd HA.out (by simp [Fe.j0])
  | succ d5 =>
   have H := HA.out
   clear HA
   simp only [Fe.j0] at H
   have H' := am H
   clear H
   go_wp2
   go_loopg [5, 13] d5 (fun kq v5 d8 w' => ∃ (a2 : Int) (a1 : Int), v5 = .int .i64 a2 ∧ d8 = .int .i64 a1 ∧ q0e (Fe.l0 kq a2 l1 (l1.length : Int) a1 = some r) ∧ q0e (kq ≤ d5) ∧ q0r w w')
   case atStart => exact ⟨(a2), (0), el, el, H', ⟨Nat.le_refl _⟩, by repeat (first | exact q0r.refl _ | apply q0r.step)⟩
   case round =>
    clear H'
    try clear c1
    obtain ⟨a2, a1, rfl, rfl, HA, b0, ⟨m2, rfl⟩⟩ := hrel
    cases gk with
    | zero => exact absurd HA.out (by simp [Fe.l0])
    | succ k2 =>
     have H := HA.out
     clear HA
     simp only [Fe.l0] at H
     by_cases c5 : a1 < (l1.length : Int)
     ·
      rw [if_pos c5] at H
      have b5 := decide_eq_true c5
      clear c5
      by_cases c6 : 0 ≤ a1
      ·
       rw [if_pos c6] at H
       have c8 := decide_eq_true c6
       clear c6
       by_cases c7 : a1 < (l1.length : Int)
       ·
        rw [if_pos c7] at H
        have d0 := decide_eq_true c7
        clear c7
        have b9 := am H
        clear H
        have a7 : 0 ≤ (a1 : Int) := od
        have a8 : a1 < (l1.length : Int) := od
        obtain ⟨d2, d1, a6⟩ := Kd.at_int d7.out a1 a7 a8
        cases d1
        replace a7 := eq_true a7
        replace a8 := eq_true a8
        go_upto_region 7 with (fail)
        go_cut [22] (fun d9 wc => ∃ (kq : Nat) (a3 : Bool), d9 = .bool a3 ∧ q0e (Fe.j2 kq a2 (rd l1 a1) l1 (l1.length : Int) a1 a3 = some r) ∧ q0e (kq ≤ k2) ∧ q0r w wc)
        case first =>
         have H := b9.out
         clear b9
         by_cases c9 : a2 ≥ 1099511627776
         ·
          rw [if_pos c9] at H
          have a5 := decide_eq_true c9
          clear c9
          (first | rw [a5] | (simp only [q1u, q1v]; rw [a5]) | skip)
          have H' := am H
          clear H
          go_wp2
          go_meet
          case rel => exact ⟨_, (true), el, H', ⟨by have := a9.out; have := b0.out; first | omega | exact Nat.le_refl _⟩, by repeat (first | exact q0r.refl _ | apply q0r.step)⟩
         rw [if_neg c9] at H
         have a5 := decide_eq_false c9
         clear c9
         (first | rw [a5] | (simp only [q1u, q1v]; rw [a5]) | skip)
         have H' := am H
         clear H
         go_wp2
         go_meet
         case rel => exact ⟨_, (decide ((rd l1 a1) ≥ 1099511627776)), el, H', ⟨by have := a9.out; have := b0.out; first | omega | exact Nat.le_refl _⟩, by repeat (first | exact q0r.refl _ | apply q0r.step)⟩
        case rest =>
         clear b9
         try clear c1
         try clear c5
         try clear b5
         try clear c6
         try clear c8
         try clear c7
         try clear d0
         try clear a6
         try clear a7
         try clear a8
         obtain ⟨kq, a3, rfl, HA, b6, ⟨e2, rfl⟩⟩ := hcut
         cases kq with
         | zero => exact absurd HA.out (by simp [Fe.j2])
         | succ d6 =>
          have H := HA.out
          clear HA
          simp only [Fe.j2] at H
          by_cases b7 : a3 = true
          ·
           subst b7
           rw [if_pos rfl] at H
           try dsimp only at H
           obtain rfl := Option.some.inj H
           go_wp2
           go_ret
           exact ⟨by first | rfl | (simp; done) | (simp [*]; done), by repeat (first | exact q0r.refl _ | apply q0r.step)⟩
          replace b7 := Bool.eq_false_iff.mpr b7
          subst b7
          rw [if_neg (show ¬ (false = true) by decide)] at H
          try dsimp only at H
          by_cases b1 : (rd l1 a1) > 0
          ·
           rw [if_pos b1] at H
           have b3 := decide_eq_true b1
           clear b1
           have H' := am H
           clear H
           go_wp2
           go_roundg d6
           case measure => have := a9.out; have := b0.out; have := b6.out; omega
           case rel => exact ⟨(wrap64 (a2 + (rd l1 a1))), (wrap64 (a1 + 1)), el, el, H', ⟨by have := a9.out; have := b0.out; have := b6.out; omega⟩, by repeat (first | exact q0r.refl _ | apply q0r.step)⟩
          rw [if_neg b1] at H
          have b3 := decide_eq_false b1
          clear b1
          have H' := am H
          clear H
          go_wp2
          go_roundg d6
          case measure => have := a9.out; have := b0.out; have := b6.out; omega
          case rel => exact ⟨(a2), (wrap64 (a1 + 1)), el, el, H', ⟨by have := a9.out; have := b0.out; have := b6.out; omega⟩, by repeat (first | exact q0r.refl _ | apply q0r.step)⟩
       rw [if_neg c7] at H
       exact absurd H (by simp)
      rw [if_neg c6] at H
      exact absurd H (by simp)
     rw [if_neg c5] at H
     have b5 := decide_eq_false c5
     clear c5
     by_cases b2 : a2 > 1099511627776
     ·
      rw [if_pos b2] at H
      have b4 := decide_eq_true b2
      clear b2
      obtain rfl := Option.some.inj H
      go_wp2
      go_ret
      exact ⟨by first | rfl | (simp; done) | (simp [*]; done), by repeat (first | exact q0r.refl _ | apply q0r.step)⟩
     rw [if_neg b2] at H
     have b4 := decide_eq_false b2
     clear b2
     obtain rfl := Option.some.inj H
     go_wp2
     go_ret
     exact ⟨by first | rfl | (simp; done) | (simp [*]; done), by repeat (first | exact q0r.refl _ | apply q0r.step)⟩
def Fp.f (k : Nat) (a0 : Int) : Option (Int) := (Fe.f k a0 ([] : List Int)).bind fun a1 => (some a1)
set_option maxHeartbeats 8000000 in
set_option maxRecDepth 100000 in
theorem Fp.calls (k : Nat) (a0 : Int) (r : Int) (w : World) (h : Fp.f k a0 = some r) :
  Calls Try.prog 65 #[.int .i64 a0] w fun e w' => e = .returned (.int .i64 r) ∧ q0r w w' := by
 unfold Fp.f at h
 have H := h
 clear h
 replace H := Option.bind_eq_some_iff.mp H
 obtain ⟨a1, a2, H⟩ := H
 try dsimp only at H
 have A2 := am a2
 clear a2
 obtain rfl := Option.some.inj H
 go_enter Try.func65, Try.ntmps65
 go_wp2_with (first | ((with_reducible refine gC 84 ?_); refine gL 4 Try.func84 #[.int .i64 a0, .slice none 0 0] ?_; (refine (Fe.calls k a0 _ _ ([] : List Int) a1 _ ?side1 ?side2 A2.out).mono ?_); (case side1 => exact Kd.C_nil _ _); (case side2 => exact Nat.le_refl _); rintro e w' ⟨rfl, ⟨nd, rfl⟩⟩; refine ⟨_, rfl, ?_⟩))
 go_ret
 exact ⟨by first | rfl | (simp; done) | (simp [*]; done), by repeat (first | exact q0r.refl _ | apply q0r.step)⟩
def Gd.f (a0 : Int) (a1 : Int) (a3 : Int) (a4 : Int) (a2 : ByteArray) : Option (Int × Int × Int × Int × ByteArray) := if a0 = 0 then (some (5, a1, 0, 0, a2)) else (if a0 = 1 then (some (5, a1, 0, 0, a2)) else (if a0 = 2 then (some (5, a1, 0, 0, a2)) else (some (a0, a1, a3, a4, a2))))
set_option maxHeartbeats 8000000 in
set_option maxRecDepth 100000 in
theorem Gd.calls (a4 : Int) (a5 : Int) (a7 : Int) (a8 : Int) (a6 : ByteArray) (r1 : Int) (r2 : Int) (r3 : Int) (r4 : Int) (r5 : ByteArray) (w : World) (h : Gd.f a4 a5 a7 a8 a6 = some (r1, r2, r3, r4, r5)) :
  Calls Try.prog 67 #[.agg #[.int .i64 a4, .int .i64 a5, .int .i64 a7, .int .i64 a8, .string a6]] w fun e w' => e = .returned (.agg #[.int .i64 r1, .int .i64 r2, .int .i64 r3, .int .i64 r4, .string r5]) ∧ Below w.heap.size w w' := by
 have d8 := Try.underlying51
 have HB := am (Below.refl w.heap.size w)
 unfold Gd.f at h
 have H := h
 clear h
 by_cases c2 : a4 = 0
 ·
  rw [if_pos c2] at H
  obtain ⟨c7, c9⟩ := qt c2
  clear c2
  simp only [Option.some.injEq, Prod.mk.injEq] at H
  obtain ⟨rfl, rfl, rfl, rfl, rfl⟩ := H
  go_enter Try.func67, Try.ntmps67
  go_wp2_with (first | ((with_reducible refine gD 1 ?_); refine bz 1 #[.int .i64 a4, .int .i64 a5, .int .i64 a7, .int .i64 a8, .string a6] 51 HB ?_; clear HB; intro b1 hg w3 hb a0 a9 HB; clear hb hg) | ((with_reducible refine gD 2 ?_); refine bz 2 #[.int .i64 0, .int .i64 0, .int .i64 0, .int .i64 0, .string (⟨#[]⟩ : ByteArray)] 51 HB ?_; clear HB; intro a3 hg w4 hb a2 b0 HB; have a1 := nL hg a0; replace a0 := kB a0 hb; clear hb hg; have d7 := nn a1; have d2 := y5 a0; have d3 := y5 a2))
  refine bodyPost_ret (results_cell_row rfl _ _ a3 51 #[.int .i64 5, .int .i64 a5, .int .i64 0, .int .i64 0, .string a6] (0, 0) _ rfl (pP a2.out) Try.underlying51 rfl (by kernel_rfl)) rfl ?_
  exact ⟨er, pB HB.out⟩
 rw [if_neg c2] at H
 obtain ⟨c7, c9⟩ := qf c2
 by_cases c8 : a4 = 1
 ·
  rw [if_pos c8] at H
  obtain ⟨d0, d1⟩ := qt c8
  clear c8
  simp only [Option.some.injEq, Prod.mk.injEq] at H
  obtain ⟨rfl, rfl, rfl, rfl, rfl⟩ := H
  go_enter Try.func67, Try.ntmps67
  go_wp2_with (first | ((with_reducible refine gD 1 ?_); refine bz 1 #[.int .i64 a4, .int .i64 a5, .int .i64 a7, .int .i64 a8, .string a6] 51 HB ?_; clear HB; intro b1 hg w9 hb a0 a9 HB; clear hb hg) | ((with_reducible refine gD 2 ?_); refine bz 2 #[.int .i64 0, .int .i64 0, .int .i64 0, .int .i64 0, .string (⟨#[]⟩ : ByteArray)] 51 HB ?_; clear HB; intro a3 hg d9 hb a2 b0 HB; have a1 := nL hg a0; replace a0 := kB a0 hb; clear hb hg; have d4 := nn a1; have b5 := y5 a0; have b6 := y5 a2))
  refine bodyPost_ret (results_cell_row rfl _ _ a3 51 #[.int .i64 5, .int .i64 a5, .int .i64 0, .int .i64 0, .string a6] (0, 0) _ rfl (pP a2.out) Try.underlying51 rfl (by kernel_rfl)) rfl ?_
  exact ⟨er, pB HB.out⟩
 rw [if_neg c8] at H
 obtain ⟨d0, d1⟩ := qf c8
 by_cases b2 : a4 = 2
 ·
  rw [if_pos b2] at H
  obtain ⟨b3, b4⟩ := qt b2
  clear b2
  simp only [Option.some.injEq, Prod.mk.injEq] at H
  obtain ⟨rfl, rfl, rfl, rfl, rfl⟩ := H
  go_enter Try.func67, Try.ntmps67
  go_wp2_with (first | ((with_reducible refine gD 1 ?_); refine bz 1 #[.int .i64 a4, .int .i64 a5, .int .i64 a7, .int .i64 a8, .string a6] 51 HB ?_; clear HB; intro b1 hg e0 hb a0 a9 HB; clear hb hg) | ((with_reducible refine gD 2 ?_); refine bz 2 #[.int .i64 0, .int .i64 0, .int .i64 0, .int .i64 0, .string (⟨#[]⟩ : ByteArray)] 51 HB ?_; clear HB; intro a3 hg e1 hb a2 b0 HB; have a1 := nL hg a0; replace a0 := kB a0 hb; clear hb hg; have d5 := nn a1; have b7 := y5 a0; have b8 := y5 a2))
  refine bodyPost_ret (results_cell_row rfl _ _ a3 51 #[.int .i64 5, .int .i64 a5, .int .i64 0, .int .i64 0, .string a6] (0, 0) _ rfl (pP a2.out) Try.underlying51 rfl (by kernel_rfl)) rfl ?_
  exact ⟨er, pB HB.out⟩
 rw [if_neg b2] at H
 obtain ⟨b3, b4⟩ := qf b2
 simp only [Option.some.injEq, Prod.mk.injEq] at H
 obtain ⟨rfl, rfl, rfl, rfl, rfl⟩ := H
 go_enter Try.func67, Try.ntmps67
 go_wp2_with (first | ((with_reducible refine gD 1 ?_); refine bz 1 #[.int .i64 a4, .int .i64 a5, .int .i64 a7, .int .i64 a8, .string a6] 51 HB ?_; clear HB; intro b1 hg e2 hb a0 a9 HB; clear hb hg) | ((with_reducible refine gD 2 ?_); refine bz 2 #[.int .i64 0, .int .i64 0, .int .i64 0, .int .i64 0, .string (⟨#[]⟩ : ByteArray)] 51 HB ?_; clear HB; intro a3 hg e3 hb a2 b0 HB; have a1 := nL hg a0; replace a0 := kB a0 hb; clear hb hg; have d6 := nn a1; have b9 := y5 a0; have c6 := y5 a2))
 refine bodyPost_ret (results_cell_row rfl _ _ a3 51 #[.int .i64 a4, .int .i64 a5, .int .i64 a7, .int .i64 a8, .string a6] (0, 0) _ rfl (pP a2.out) Try.underlying51 rfl (by kernel_rfl)) rfl ?_
 exact ⟨er, pB HB.out⟩
def Gj.f (a0 : Int) (a1 : Int) (a2 : Int) (a3 : Int) (a4 : ByteArray) : Option (Int × Int × Int × Int × ByteArray) := if a0 = 0 then (some (1, a1, a2, a3, a4)) else (some (a0, a1, a2, a3, a4))
set_option maxHeartbeats 8000000 in
set_option maxRecDepth 100000 in
theorem Gj.calls (a3 : Int) (a4 : Int) (a5 : Int) (a6 : Int) (a7 : ByteArray) (r1 : Int) (r2 : Int) (r3 : Int) (r4 : Int) (r5 : ByteArray) (w : World) (h : Gj.f a3 a4 a5 a6 a7 = some (r1, r2, r3, r4, r5)) :
  Calls Try.prog 74 #[.agg #[.int .i64 a3, .int .i64 a4, .int .i64 a5, .int .i64 a6, .string a7]] w fun e w' => e = .returned (.agg #[.int .i64 r1, .int .i64 r2, .int .i64 r3, .int .i64 r4, .string r5]) ∧ Below w.heap.size w w' := by
 have c6 := Try.underlying51
 have HB := am (Below.refl w.heap.size w)
 unfold Gj.f at h
 have H := h
 clear h
 by_cases c2 : a3 = 0
 ·
  rw [if_pos c2] at H
  obtain ⟨b4, b5⟩ := qt c2
  clear c2
  simp only [Option.some.injEq, Prod.mk.injEq] at H
  obtain ⟨rfl, rfl, rfl, rfl, rfl⟩ := H
  go_enter Try.func74, Try.ntmps74
  go_wp2_with (first | ((with_reducible refine gD 1 ?_); refine bz 1 #[.int .i64 a3, .int .i64 a4, .int .i64 a5, .int .i64 a6, .string a7] 51 HB ?_; clear HB; intro b1 hg w3 hb a0 a9 HB; clear hb hg) | ((with_reducible refine gD 2 ?_); refine bz 2 #[.int .i64 0, .int .i64 0, .int .i64 0, .int .i64 0, .string (⟨#[]⟩ : ByteArray)] 51 HB ?_; clear HB; intro a8 hg w4 hb a2 b0 HB; have a1 := nL hg a0; replace a0 := kB a0 hb; clear hb hg; have b9 := nn a1; have b6 := y5 a0; have b7 := y5 a2))
  refine bodyPost_ret (results_cell_row rfl _ _ a8 51 #[.int .i64 1, .int .i64 a4, .int .i64 a5, .int .i64 a6, .string a7] (0, 0) _ rfl (pP a2.out) Try.underlying51 rfl (by kernel_rfl)) rfl ?_
  exact ⟨er, pB HB.out⟩
 rw [if_neg c2] at H
 obtain ⟨b4, b5⟩ := qf c2
 simp only [Option.some.injEq, Prod.mk.injEq] at H
 obtain ⟨rfl, rfl, rfl, rfl, rfl⟩ := H
 go_enter Try.func74, Try.ntmps74
 go_wp2_with (first | ((with_reducible refine gD 1 ?_); refine bz 1 #[.int .i64 a3, .int .i64 a4, .int .i64 a5, .int .i64 a6, .string a7] 51 HB ?_; clear HB; intro b1 hg w8 hb a0 a9 HB; clear hb hg) | ((with_reducible refine gD 2 ?_); refine bz 2 #[.int .i64 0, .int .i64 0, .int .i64 0, .int .i64 0, .string (⟨#[]⟩ : ByteArray)] 51 HB ?_; clear HB; intro a8 hg w9 hb a2 b0 HB; have a1 := nL hg a0; replace a0 := kB a0 hb; clear hb hg; have b8 := nn a1; have b2 := y5 a0; have b3 := y5 a2))
 refine bodyPost_ret (results_cell_row rfl _ _ a8 51 #[.int .i64 a3, .int .i64 a4, .int .i64 a5, .int .i64 a6, .string a7] (0, 0) _ rfl (pP a2.out) Try.underlying51 rfl (by kernel_rfl)) rfl ?_
 exact ⟨er, pB HB.out⟩
end Go.Proofs.Ytabmkighhmchmaa.X
