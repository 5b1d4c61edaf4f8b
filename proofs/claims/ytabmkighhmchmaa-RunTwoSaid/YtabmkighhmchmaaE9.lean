/- Words and walks for the law RunTwo, joined and made small by a program of mine. -/
import Derived.Test.YtabmkighhmchmaaE2
import Derived.Test.YtabmkighhmchmaaE8
import Derived.Test.YtabmkighhmchmaaE6
import Derived.Test.YtabmkighhmchmaaE5
namespace Go.Proofs.Ytabmkighhmchmaa.X
open Go.RowKit Go.Proofs.YtabmkighhmchmaaW.PrintWords Go.Proofs.YtabmkighhmchmaaW.PrintLast Go.Proofs.YtabmkighhmchmaaW.PrintMore Go.Proofs.YtabmkighhmchmaaW.Sq
attribute [local go_sem] max2_int min2_int max_two min_two max_three min_three max_four min_four
set_option linter.unusedVariables false
set_option linter.unusedSimpArgs false
mutual
def Fc.j0 : Nat → Bool → List Int → Int → Int → Int → Int → Int → Int → Int → ByteArray → Option (Bool)
 | 0, _, _, _, _, _, _, _, _, _, _ => none
 | k + 1, a9, a3, a4, a5, a6, a0, a1, a2, a7, a8 => if a9 = true then (some false) else (if a0 = 0 then (if a1 = 0 then (Fc.j1 k (a2 != 0) a3 a4 a5 a6 a0 a1 a2 a7 a8) else (Fc.j1 k true a3 a4 a5 a6 a0 a1 a2 a7 a8)) else (Fc.j1 k false a3 a4 a5 a6 a0 a1 a2 a7 a8))
def Fc.j1 : Nat → Bool → List Int → Int → Int → Int → Int → Int → Int → Int → ByteArray → Option (Bool)
 | 0, _, _, _, _, _, _, _, _, _, _ => none
 | k + 1, a9, a3, a0, a4, a5, a1, a2, a6, a7, a8 => if a9 = true then (some false) else (if a1 = 1 then (Fc.j2 k (decide (a2 ≥ a0)) a3 a0 a4 a5 a1 a2 a6 a7 a8) else (Fc.j2 k false a3 a0 a4 a5 a1 a2 a6 a7 a8))
def Fc.j2 : Nat → Bool → List Int → Int → Int → Int → Int → Int → Int → Int → ByteArray → Option (Bool)
 | 0, _, _, _, _, _, _, _, _, _, _ => none
 | k + 1, a9, a2, a3, a4, a5, a0, a1, a6, a7, a8 => if a9 = true then (some false) else (if a0 = 2 then (Fc.j3 k (decide (a1 < 1)) a2 a3 a4 a5 a0 a1 a6 a7 a8) else (if a0 = 3 then (Fc.j3 k (decide (a1 < 1)) a2 a3 a4 a5 a0 a1 a6 a7 a8) else (Fc.j3 k false a2 a3 a4 a5 a0 a1 a6 a7 a8)))
def Fc.j3 : Nat → Bool → List Int → Int → Int → Int → Int → Int → Int → Int → ByteArray → Option (Bool)
 | 0, _, _, _, _, _, _, _, _, _, _ => none
 | k + 1, a9, a4, a2, a5, a6, a0, a3, a1, a7, a8 => if a9 = true then (some false) else (if a0 = 4 then (if a3 = a2 then (if a1 = 0 then (some true) else (if a0 = 1 then (some true) else (some (a0 == 2)))) else (some false)) else (if a1 = 0 then (some true) else (if a0 = 1 then (some true) else (some (a0 == 2)))))
end
def Fc.f (k : Nat) (a8 : List Int) (a1 : Int) (a6 : Int) (a7 : Int) (a2 : Int) (a0 : Int) (a3 : Int) (a4 : Int) (a5 : ByteArray) : Option (Bool) := (Ff.f k a2 a0 a3 a4 a5).bind fun a9 => (if a9 = true then (Fc.j0 k (decide (a0 > a1)) a8 a1 a6 a7 a2 a0 a3 a4 a5) else (Fc.j0 k true a8 a1 a6 a7 a2 a0 a3 a4 a5))
set_option maxHeartbeats 8000000 in
set_option maxRecDepth 100000 in
theorem Fc.calls (k : Nat) (b8 : Option Addr) (b9 : Nat) (a9 : List Int) (a8 : Int) (b0 : Int) (b1 : Int) (a3 : Int) (a4 : Int) (a5 : Int) (a6 : Int) (a7 : ByteArray) (r : Bool) (w : World) (d3 : Kd.C (Kd.int .i64) w b8 a9.length a9) (d2 : a9.length ≤ b9) (h : Fc.f k a9 a8 b0 b1 a3 a4 a5 a6 a7 = some r) :
  Calls Try.prog 40 #[.agg #[.slice b8 a9.length b9, .int .i64 a8, .int .i64 b0, .int .i64 b1], .agg #[.int .i64 a3, .int .i64 a4, .int .i64 a5, .int .i64 a6, .string a7]] w fun e w' => e = .returned (.bool r) ∧ Below w.heap.size w w' := by
 have m9 := Try.underlying49
 have n0 := Try.underlying51
 have l0 := am d3
 have k9 := am d2
 clear d3 d2
 have HB := am (Below.refl w.heap.size w)
 unfold Fc.f at h
 have H := h
 clear h
 have k1 := am H
 clear H
 go_enter Try.func40, Try.ntmps40
 go_upto_region 1 with (first | ((with_reducible refine gD 2 ?_); refine bz 2 #[.slice b8 a9.length b9, .int .i64 a8, .int .i64 b0, .int .i64 b1] 49 HB ?_; clear HB; intro c6 hg w4 hb a2 k7 HB; clear hb hg) | ((with_reducible refine gD 3 ?_); refine bz 3 #[.int .i64 a3, .int .i64 a4, .int .i64 a5, .int .i64 a6, .string a7] 51 HB ?_; clear HB; intro c8 hg w5 hb a1 k8 HB; have d9 := nL hg a2; have a0 := nG hg a2; replace a2 := kB a2 hb; clear hb hg))
 (try simp only [Act.put, List.setIfInBounds_toArray, List.set_cons_zero, List.set_cons_succ])
 go_cut [14] (fun n3 wc => ∃ (kq : Nat) (c9 : Bool), n3 = .bool c9 ∧ Aside0 (Fc.j0 kq c9 a9 a8 b0 b1 a3 a4 a5 a6 a7 = some r) ∧ Aside0 (kq ≤ k) ∧ Aside0 (wc.heap[c6]? = some (.cells #[(.slice b8 a9.length b9), .int .i64 a8, .int .i64 b0, .int .i64 b1] 49 (0, 0))) ∧ Aside0 (wc.heap[c8]? = some (.cells #[.int .i64 a3, .int .i64 a4, .int .i64 a5, .int .i64 a6, .string a7] 51 (0, 0))) ∧ Aside0 (Below w.heap.size w wc))
 case first =>
  have H := k1.out
  clear k1
  replace H := Option.bind_eq_some_iff.mp H
  obtain ⟨k5, k6, H⟩ := H
  try dsimp only at H
  have A6 := am k6
  clear k6
  by_cases c7 : k5 = true
  ·
   subst c7
   rw [if_pos rfl] at H
   try dsimp only at H
   have H' := am H
   clear H
   have m8 := nn a0
   have k2 := y5 a1
   go_wp2_with (first | ((with_reducible refine gC 77 ?_); refine gL 6 Try.func77 #[.agg #[.int .i64 a3, .int .i64 a4, .int .i64 a5, .int .i64 a6, .string a7]] ?_; (with_reducible refine (Ff.calls k a3 a4 a5 a6 a7 true _ A6.out).mono ?_); rintro e n7 ⟨rfl, hb⟩; refine ⟨_, rfl, ?_⟩; replace a2 := kB a2 hb; replace a1 := kB a1 hb; replace HB := bS HB hb; (try clear hb); (try clear hb2); (try clear hk); (try clear hi); have h4 := y5 a1; have h5 := y4 a2))
   go_meet
   case rel => exact ⟨_, (decide (a4 > a8)), el, H', ol, ⟨pk a2.out⟩, ⟨pk a1.out⟩, ⟨pB HB.out⟩⟩
  replace c7 := Bool.eq_false_iff.mpr c7
  subst c7
  rw [if_neg (show ¬ (false = true) by decide)] at H
  try dsimp only at H
  have H' := am H
  clear H
  have l1 := nn a0
  have h6 := y5 a1
  go_wp2_with (first | ((with_reducible refine gC 77 ?_); refine gL 6 Try.func77 #[.agg #[.int .i64 a3, .int .i64 a4, .int .i64 a5, .int .i64 a6, .string a7]] ?_; (with_reducible refine (Ff.calls k a3 a4 a5 a6 a7 false _ A6.out).mono ?_); rintro e n8 ⟨rfl, hb⟩; refine ⟨_, rfl, ?_⟩; replace a2 := kB a2 hb; replace a1 := kB a1 hb; replace HB := bS HB hb; (try clear hb); (try clear hb2); (try clear hk); (try clear hi)))
  go_meet
  case rel => exact ⟨_, (true), el, H', ol, ⟨pk a2.out⟩, ⟨pk a1.out⟩, ⟨pB HB.out⟩⟩
 case rest =>
  clear k1
  obtain ⟨kq, c9, rfl, HA, d1, a2, a1, HB⟩ := hcut
  cases kq with
  | zero => exact absurd HA.out (by simp [Fc.j0])
  | succ n1 =>
   have H := HA.out
   clear HA
   simp only [Fc.j0] at H
   by_cases d8 : c9 = true
   ·
    subst d8
    rw [if_pos rfl] at H
    try dsimp only at H
    obtain rfl := Option.some.inj H
    go_wp2
    go_ret
    exact ⟨er, pB HB.out⟩
   replace d8 := Bool.eq_false_iff.mpr d8
   subst d8
   rw [if_neg (show ¬ (false = true) by decide)] at H
   try dsimp only at H
   have d4 := am H
   clear H
   go_upto_region 3 with (fail)
   go_cut [27] (fun n4 wc => ∃ (kq : Nat) (b2 : Bool), n4 = .bool b2 ∧ Aside0 (Fc.j1 kq b2 a9 a8 b0 b1 a3 a4 a5 a6 a7 = some r) ∧ Aside0 (kq ≤ n1) ∧ Aside0 (wc.heap[c6]? = some (.cells #[(.slice b8 a9.length b9), .int .i64 a8, .int .i64 b0, .int .i64 b1] 49 (0, 0))) ∧ Aside0 (wc.heap[c8]? = some (.cells #[.int .i64 a3, .int .i64 a4, .int .i64 a5, .int .i64 a6, .string a7] 51 (0, 0))) ∧ Aside0 (Below w.heap.size w wc))
   case first =>
    have H := d4.out
    clear d4
    by_cases e1 : a3 = 0
    ·
     rw [if_pos e1] at H
     obtain ⟨b5, e2⟩ := qt e1
     clear e1
     (first | rw [b5] | (simp only [i64_w, i32_w]; rw [b5]) | skip)
     by_cases e3 : a4 = 0
     ·
      rw [if_pos e3] at H
      obtain ⟨e4, e5⟩ := qt e3
      clear e3
      have H' := am H
      clear H
      have l2 := nn a0
      have h7 := y5 a1
      go_wp2
      go_meet
      case rel => exact ⟨_, ((a5 != 0)), el, H', ⟨by have := d1.out; first | omega | exact Nat.le_refl _⟩, ⟨pk a2.out⟩, ⟨pk a1.out⟩, ⟨pB HB.out⟩⟩
     rw [if_neg e3] at H
     obtain ⟨e4, e5⟩ := qf e3
     have H' := am H
     clear H
     have l3 := nn a0
     have h8 := y5 a1
     go_wp2
     go_meet
     case rel => exact ⟨_, (true), el, H', ⟨by have := d1.out; first | omega | exact Nat.le_refl _⟩, ⟨pk a2.out⟩, ⟨pk a1.out⟩, ⟨pB HB.out⟩⟩
    rw [if_neg e1] at H
    obtain ⟨b5, e2⟩ := qf e1
    (first | rw [b5] | (simp only [i64_w, i32_w]; rw [b5]) | skip)
    have H' := am H
    clear H
    have l4 := nn a0
    have h9 := y5 a1
    go_wp2
    go_meet
    case rel => exact ⟨_, (false), el, H', ⟨by have := d1.out; first | omega | exact Nat.le_refl _⟩, ⟨pk a2.out⟩, ⟨pk a1.out⟩, ⟨pB HB.out⟩⟩
   case rest =>
    clear d4
    try clear d8
    obtain ⟨kq, b2, rfl, HA, d0, a2, a1, HB⟩ := hcut
    cases kq with
    | zero => exact absurd HA.out (by simp [Fc.j1])
    | succ k3 =>
     have H := HA.out
     clear HA
     simp only [Fc.j1] at H
     by_cases e0 : b2 = true
     ·
      subst e0
      rw [if_pos rfl] at H
      try dsimp only at H
      obtain rfl := Option.some.inj H
      go_wp2
      go_ret
      exact ⟨er, pB HB.out⟩
     replace e0 := Bool.eq_false_iff.mpr e0
     subst e0
     rw [if_neg (show ¬ (false = true) by decide)] at H
     try dsimp only at H
     have d5 := am H
     clear H
     go_upto_region 5 with (fail)
     go_cut [37] (fun n5 wc => ∃ (kq : Nat) (b3 : Bool), n5 = .bool b3 ∧ Aside0 (Fc.j2 kq b3 a9 a8 b0 b1 a3 a4 a5 a6 a7 = some r) ∧ Aside0 (kq ≤ k3) ∧ Aside0 (wc.heap[c6]? = some (.cells #[(.slice b8 a9.length b9), .int .i64 a8, .int .i64 b0, .int .i64 b1] 49 (0, 0))) ∧ Aside0 (wc.heap[c8]? = some (.cells #[.int .i64 a3, .int .i64 a4, .int .i64 a5, .int .i64 a6, .string a7] 51 (0, 0))) ∧ Aside0 (Below w.heap.size w wc))
     case first =>
      have H := d5.out
      clear d5
      by_cases e6 : a3 = 1
      ·
       rw [if_pos e6] at H
       obtain ⟨b6, e7⟩ := qt e6
       clear e6
       (first | rw [b6] | (simp only [i64_w, i32_w]; rw [b6]) | skip)
       have H' := am H
       clear H
       have l5 := nn a0
       have i0 := y5 a1
       have i1 := y4 a2
       go_wp2
       go_meet
       case rel => exact ⟨_, (decide (a4 ≥ a8)), el, H', ⟨by have := d1.out; have := d0.out; first | omega | exact Nat.le_refl _⟩, ⟨pk a2.out⟩, ⟨pk a1.out⟩, ⟨pB HB.out⟩⟩
      rw [if_neg e6] at H
      obtain ⟨b6, e7⟩ := qf e6
      (first | rw [b6] | (simp only [i64_w, i32_w]; rw [b6]) | skip)
      have H' := am H
      clear H
      have l6 := nn a0
      have i2 := y5 a1
      go_wp2
      go_meet
      case rel => exact ⟨_, (false), el, H', ⟨by have := d1.out; have := d0.out; first | omega | exact Nat.le_refl _⟩, ⟨pk a2.out⟩, ⟨pk a1.out⟩, ⟨pB HB.out⟩⟩
     case rest =>
      clear d5
      try clear d8
      try clear e0
      obtain ⟨kq, b3, rfl, HA, d7, a2, a1, HB⟩ := hcut
      cases kq with
      | zero => exact absurd HA.out (by simp [Fc.j2])
      | succ k4 =>
       have H := HA.out
       clear HA
       simp only [Fc.j2] at H
       by_cases e8 : b3 = true
       ·
        subst e8
        rw [if_pos rfl] at H
        try dsimp only at H
        obtain rfl := Option.some.inj H
        go_wp2
        go_ret
        exact ⟨er, pB HB.out⟩
       replace e8 := Bool.eq_false_iff.mpr e8
       subst e8
       rw [if_neg (show ¬ (false = true) by decide)] at H
       try dsimp only at H
       have d6 := am H
       clear H
       go_upto_region 7 with (fail)
       go_cut [50] (fun n6 wc => ∃ (kq : Nat) (b4 : Bool), n6 = .bool b4 ∧ Aside0 (Fc.j3 kq b4 a9 a8 b0 b1 a3 a4 a5 a6 a7 = some r) ∧ Aside0 (kq ≤ k4) ∧ Aside0 (wc.heap[c6]? = some (.cells #[(.slice b8 a9.length b9), .int .i64 a8, .int .i64 b0, .int .i64 b1] 49 (0, 0))) ∧ Aside0 (wc.heap[c8]? = some (.cells #[.int .i64 a3, .int .i64 a4, .int .i64 a5, .int .i64 a6, .string a7] 51 (0, 0))) ∧ Aside0 (Below w.heap.size w wc))
       case first =>
        have H := d6.out
        clear d6
        by_cases e9 : a3 = 2
        ·
         rw [if_pos e9] at H
         obtain ⟨b7, f0⟩ := qt e9
         clear e9
         (first | rw [b7] | (simp only [i64_w, i32_w]; rw [b7]) | skip)
         have H' := am H
         clear H
         have l7 := nn a0
         have i3 := y5 a1
         go_wp2
         go_meet
         case rel => exact ⟨_, (decide (a4 < 1)), el, H', ⟨by have := d1.out; have := d0.out; have := d7.out; first | omega | exact Nat.le_refl _⟩, ⟨pk a2.out⟩, ⟨pk a1.out⟩, ⟨pB HB.out⟩⟩
        rw [if_neg e9] at H
        obtain ⟨b7, f0⟩ := qf e9
        (first | rw [b7] | (simp only [i64_w, i32_w]; rw [b7]) | skip)
        by_cases f1 : a3 = 3
        ·
         rw [if_pos f1] at H
         obtain ⟨f2, f3⟩ := qt f1
         clear f1
         have H' := am H
         clear H
         have l8 := nn a0
         have i4 := y5 a1
         go_wp2
         go_meet
         case rel => exact ⟨_, (decide (a4 < 1)), el, H', ⟨by have := d1.out; have := d0.out; have := d7.out; first | omega | exact Nat.le_refl _⟩, ⟨pk a2.out⟩, ⟨pk a1.out⟩, ⟨pB HB.out⟩⟩
        rw [if_neg f1] at H
        obtain ⟨f2, f3⟩ := qf f1
        have H' := am H
        clear H
        have l9 := nn a0
        have i5 := y5 a1
        go_wp2
        go_meet
        case rel => exact ⟨_, (false), el, H', ⟨by have := d1.out; have := d0.out; have := d7.out; first | omega | exact Nat.le_refl _⟩, ⟨pk a2.out⟩, ⟨pk a1.out⟩, ⟨pB HB.out⟩⟩
       case rest =>
        clear d6
        try clear d8
        try clear e0
        try clear e8
        obtain ⟨kq, b4, rfl, HA, m7, a2, a1, HB⟩ := hcut
        cases kq with
        | zero => exact absurd HA.out (by simp [Fc.j3])
        | succ n2 =>
         have H := HA.out
         clear HA
         simp only [Fc.j3] at H
         by_cases h3 : b4 = true
         ·
          subst h3
          rw [if_pos rfl] at H
          try dsimp only at H
          obtain rfl := Option.some.inj H
          go_wp2
          go_ret
          exact ⟨er, pB HB.out⟩
         replace h3 := Bool.eq_false_iff.mpr h3
         subst h3
         rw [if_neg (show ¬ (false = true) by decide)] at H
         try dsimp only at H
         by_cases f4 : a3 = 4
         ·
          rw [if_pos f4] at H
          obtain ⟨f5, f6⟩ := qt f4
          clear f4
          by_cases f7 : a4 = a8
          ·
           rw [if_pos f7] at H
           obtain ⟨f8, f9⟩ := qt f7
           clear f7
           by_cases g0 : a5 = 0
           ·
            rw [if_pos g0] at H
            obtain ⟨g1, g2⟩ := qt g0
            clear g0
            obtain rfl := Option.some.inj H
            have m0 := nn a0
            have i6 := y5 a1
            have i7 := y4 a2
            go_wp2
            go_ret
            exact ⟨er, pB HB.out⟩
           rw [if_neg g0] at H
           obtain ⟨g1, g2⟩ := qf g0
           by_cases g3 : a3 = 1
           ·
            rw [if_pos g3] at H
            obtain ⟨g4, g5⟩ := qt g3
            clear g3
            obtain rfl := Option.some.inj H
            have m1 := nn a0
            have i8 := y5 a1
            have i9 := y4 a2
            go_wp2
            go_ret
            exact ⟨er, pB HB.out⟩
           rw [if_neg g3] at H
           obtain ⟨g4, g5⟩ := qf g3
           obtain rfl := Option.some.inj H
           have m2 := nn a0
           have j4 := y5 a1
           have j5 := y4 a2
           go_wp2
           go_ret
           exact ⟨er, pB HB.out⟩
          rw [if_neg f7] at H
          obtain ⟨f8, f9⟩ := qf f7
          obtain rfl := Option.some.inj H
          have m3 := nn a0
          have j6 := y5 a1
          have j7 := y4 a2
          go_wp2
          go_ret
          exact ⟨er, pB HB.out⟩
         rw [if_neg f4] at H
         obtain ⟨f5, f6⟩ := qf f4
         by_cases g6 : a5 = 0
         ·
          rw [if_pos g6] at H
          obtain ⟨g7, g8⟩ := qt g6
          clear g6
          obtain rfl := Option.some.inj H
          have m4 := nn a0
          have j8 := y5 a1
          go_wp2
          go_ret
          exact ⟨er, pB HB.out⟩
         rw [if_neg g6] at H
         obtain ⟨g7, g8⟩ := qf g6
         by_cases g9 : a3 = 1
         ·
          rw [if_pos g9] at H
          obtain ⟨h0, h2⟩ := qt g9
          clear g9
          obtain rfl := Option.some.inj H
          have m5 := nn a0
          have j9 := y5 a1
          go_wp2
          go_ret
          exact ⟨er, pB HB.out⟩
         rw [if_neg g9] at H
         obtain ⟨h0, h2⟩ := qf g9
         obtain rfl := Option.some.inj H
         have m6 := nn a0
         have k0 := y5 a1
         go_wp2
         go_ret
         exact ⟨er, pB HB.out⟩
mutual
def Fa.j0 : Nat → Bool → ByteArray → ByteArray → List (S49) → Int → List (S51) → Option (Bool)
 | 0, _, _, _, _, _, _ => none
 | k + 1, a5, a1, a2, a3, a4, a0 => if a5 = true then (some false) else (Fa.l0 k a0 (a0.length : Int) 0 a1 a2 a3 a4 a0)
def Fa.l0 : Nat → List (S51) → Int → Int → ByteArray → ByteArray → List (S49) → Int → List (S51) → Option (Bool)
 | 0, _, _, _, _, _, _, _, _ => none
 | k + 1, a2, a8, a1, a3, a4, a0, a5, a6 => if a1 < a8 then (if 0 ≤ a1 then (if a1 < (a2.length : Int) then (if a1 < (a0.length : Int) then ((Fc.f k ((rd_T49 a0 a1).f0) ((rd_T49 a0 a1).f1) ((rd_T49 a0 a1).f2) ((rd_T49 a0 a1).f3) ((rd_T51 a2 a1).f0) ((rd_T51 a2 a1).f1) ((rd_T51 a2 a1).f2) ((rd_T51 a2 a1).f3) ((rd_T51 a2 a1).f4)).bind fun a7 => (if a7 = true then (Fa.l1 k a1 0 a2 a8 a1 a3 a4 a0 a5 a6 ((rd_T51 a2 a1).f0) ((rd_T51 a2 a1).f1) ((rd_T51 a2 a1).f2) ((rd_T51 a2 a1).f3) ((rd_T51 a2 a1).f4)) else (some false))) else (none)) else (none)) else (none)) else (some true)
def Fa.l1 : Nat → Int → Int → List (S51) → Int → Int → ByteArray → ByteArray → List (S49) → Int → List (S51) → Int → Int → Int → Int → ByteArray → Option (Bool)
 | 0, _, _, _, _, _, _, _, _, _, _, _, _, _, _, _ => none
 | k + 1, x3, x5, b0, b1, b2, a2, a3, a4, a5, a0, a6, a7, a8, a1, a9 => if x5 < x3 then (if a1 > 0 then (if 0 ≤ x5 then (if x5 < (a0.length : Int) then (if ((rd_T51 a0 x5).f3) = a1 then (some false) else (Fa.l1 k x3 (wrap64 (x5 + 1)) b0 b1 b2 a2 a3 a4 a5 a0 a6 a7 a8 a1 a9)) else (none)) else (none)) else (Fa.l1 k x3 (wrap64 (x5 + 1)) b0 b1 b2 a2 a3 a4 a5 a0 a6 a7 a8 a1 a9)) else (if a6 = 0 then ((Fk.f k a2 a3 a4 a5 a0 x3).bind fun b3 => (Fa.j3 k x3 b0 b1 b2 b3 a2 a3 a4 a5 a0 a6 a7 a8 a1 a9)) else (Fa.j3 k x3 b0 b1 b2 false a2 a3 a4 a5 a0 a6 a7 a8 a1 a9))
def Fa.j3 : Nat → Int → List (S51) → Int → Int → Bool → ByteArray → ByteArray → List (S49) → Int → List (S51) → Int → Int → Int → Int → ByteArray → Option (Bool)
 | 0, _, _, _, _, _, _, _, _, _, _, _, _, _, _, _ => none
 | k + 1, x3, b1, b2, b3, b4, a0, a1, a2, a3, a4, a5, a6, a7, a8, a9 => if b4 = true then (some false) else (if a5 = 0 then (Fa.l0 k b1 b2 (wrap64 (b3 + 1)) a0 a1 a2 a3 a4) else (if a5 = 5 then (Fa.l0 k b1 b2 (wrap64 (b3 + 1)) a0 a1 a2 a3 a4) else ((Fk.f k a0 a1 a2 a3 a4 x3).bind fun b0 => (if b0 = true then (Fa.l0 k b1 b2 (wrap64 (b3 + 1)) a0 a1 a2 a3 a4) else (some false)))))
end
def Fa.f (k : Nat) (a0 : ByteArray) (a2 : ByteArray) (a1 : List (S49)) (a4 : Int) (a3 : List (S51)) : Option (Bool) := if (a0.size : Int) < 1 then (Fa.j0 k true a0 a2 a1 a4 a3) else (if (a0.size : Int) > 16 then (Fa.j0 k true a0 a2 a1 a4 a3) else ((Fi.f k a2 a1).bind fun a5 => (if a5 = 0 then (if (a3.length : Int) = (a1.length : Int) then ((Fq.f k a0 a2 a1 a4 a3).bind fun a6 => (Fa.j0 k (!a6) a0 a2 a1 a4 a3)) else (Fa.j0 k true a0 a2 a1 a4 a3)) else (Fa.j0 k true a0 a2 a1 a4 a3))))
def Fa.T6 : Bool × List (List Nat × List Nat) := (true, [([], []), ([0], [0]), ([1], [1]), ([], []), ([2, 3], [2, 3]), ([4], [4]), ([], []), ([5, 6], [5, 6]), ([7], [7])])
def Fa.B6 : List Nat := [0, 1, 3, 0, 15, 31, 0, 127, 255]
theorem Fa.tab6 : rtab .any (opsOf Try.f15 6) = Fa.T6 := by kernel_rfl
theorem Fa.bits6 : waitsOk Fa.T6.2 Fa.B6 = true := by kernel_rfl
def Fa.T11 : Bool × List (List Nat × List Nat) := (true, [([], []), ([0], [0]), ([1], [1]), ([2], [2]), ([3], [3]), ([4, 3], [3, 4]), ([3], [3]), ([5, 6, 3], [3, 5, 6]), ([7, 3], [3, 7]), ([8, 3], [3, 8]), ([3], [3]), ([10, 3], [3, 10]), ([9, 11, 3], [3, 9, 11]), ([3, 12], [3, 12])])
def Fa.B11 : List Nat := [0, 1, 3, 7, 15, 31, 15, 127, 255, 511, 15, 1039, 4095, 8191]
theorem Fa.tab11 : rtab .any (opsOf Try.f15 11) = Fa.T11 := by kernel_rfl
theorem Fa.bits11 : waitsOk Fa.T11.2 Fa.B11 = true := by kernel_rfl
set_option maxHeartbeats 8000000 in
set_option maxRecDepth 100000 in
theorem Fa.calls (k : Nat) (b7 : ByteArray) (b8 : ByteArray) (h2 : Option Addr) (f6 : Nat) (a5 : List (S49)) (d6 : Int) (i3 : Option Addr) (f7 : Nat) (a1 : List (S51)) (r : Bool) (w : World) (j5 : Kd.C k49 w h2 a5.length a5) (j2 : a5.length ≤ f6) (j6 : Kd.C k51 w i3 a1.length a1) (j4 : a1.length ≤ f7) (h : Fa.f k b7 b8 a5 d6 a1 = some r) :
  Calls Try.prog 15 #[.agg #[.string b7, .string b8, .slice h2 a5.length f6, .int .i64 d6, .slice i3 a1.length f7]] w fun e w' => e = .returned (.bool r) ∧ Below w.heap.size w w' := by
 have t0 := Try.underlying27
 have s9 := Try.underlying24
 have t2 := Try.underlying51
 have t1 := Try.underlying49
 have e2 := am j5
 have g0 := am j2
 clear j5 j2
 have f8 := am j6
 have h5 := am j4
 clear j6 j4
 have HB := am (Below.refl w.heap.size w)
 unfold Fa.f at h
 have H := h
 clear h
 have q2 := am H
 clear H
 go_enter Try.func15, Try.ntmps15
 go_upto_region 1 with (first | ((with_reducible refine gD 1 ?_); (try (refine gate_guard (by rfl) ?_; dsimp only)); refine bz 1 #[.string b7, .string b8, .slice h2 a5.length f6, .int .i64 d6, .slice i3 a1.length f7] 27 HB ?_; clear HB; intro a8 hg w3 hb a2 r5 HB; clear hb hg))
 (try simp only [Act.put, List.setIfInBounds_toArray, List.set_cons_zero, List.set_cons_succ])
 go_cut [36] (fun t3 wc => ∃ (kq : Nat) (h7 : Bool), t3 = .bool h7 ∧ Aside0 (Fa.j0 kq h7 b7 b8 a5 d6 a1 = some r) ∧ Aside0 (kq ≤ k) ∧ Aside0 (wc.heap[a8]? = some (.cells #[.string b7, .string b8, (.slice h2 a5.length f6), .int .i64 d6, (.slice i3 a1.length f7)] 27 (0, 0))) ∧ Aside0 (Below w.heap.size w wc))
 case first =>
  have H := q2.out
  clear q2
  by_cases c4 : (b7.size : Int) < 1
  ·
   rw [if_pos c4] at H
   have i5 := decide_eq_true c4
   have q3 : decide (b7.size < 1) = true := decide_eq_true (by omega)
   clear c4
   (first | rw [i5] | (simp only [i64_w, i32_w]; rw [i5]) | skip)
   have H' := am H
   clear H
   have q8 := y5 a2
   go_wp2
   go_meet
   case rel => exact ⟨_, (true), el, H', ol, ⟨pk a2.out⟩, ⟨pB HB.out⟩⟩
  rw [if_neg c4] at H
  have i5 := decide_eq_false c4
  have q3 : decide (b7.size < 1) = false := decide_eq_false (by omega)
  clear c4
  (first | rw [i5] | (simp only [i64_w, i32_w]; rw [i5]) | skip)
  by_cases c6 : (b7.size : Int) > 16
  ·
   rw [if_pos c6] at H
   have q4 := decide_eq_true c6
   have q5 : decide (16 < b7.size) = true := decide_eq_true (by omega)
   clear c6
   have H' := am H
   clear H
   have q9 := y5 a2
   go_wp2
   go_meet
   case rel => exact ⟨_, (true), el, H', ol, ⟨pk a2.out⟩, ⟨pB HB.out⟩⟩
  rw [if_neg c6] at H
  have q4 := decide_eq_false c6
  have q5 : decide (16 < b7.size) = false := decide_eq_false (by omega)
  clear c6
  replace H := Option.bind_eq_some_iff.mp H
  obtain ⟨i8, r4, H⟩ := H
  try dsimp only at H
  have A8 := am r4
  clear r4
  by_cases c9 : i8 = 0
  ·
   rw [if_pos c9] at H
   obtain ⟨q6, q7⟩ := qt c9
   clear c9
   by_cases i7 : (a1.length : Int) = (a5.length : Int)
   ·
    rw [if_pos i7] at H
    obtain ⟨l7, l8⟩ := qt i7
    have l9 : (a1.length == a5.length) = true := by first | simpa using i7 | (simp at i7 ⊢; omega)
    clear i7
    replace H := Option.bind_eq_some_iff.mp H
    obtain ⟨n9, l2, H⟩ := H
    try dsimp only at H
    have s7 := am l2
    clear l2
    have H' := am H
    clear H
    have o5 := y5 a2
    go_wp2_with (first | (go_at_call 11; (with_reducible refine (Fi.calls k b8 _ _ a5 i8 _ ?side1 ?side2 A8.out).mono ?_); (case side1 => exact (Kd.C_below e2.out (pB HB.out))); (case side2 => exact g0.out); rintro e t8 ⟨rfl, hb⟩; replace a2 := kB a2 hb; replace HB := bS HB hb; (try clear hb); (try clear hb2); (try clear hk); (try clear hi); have o6 := y5 a2) | (go_at_call 39; (with_reducible refine (Fq.calls k b7 b8 _ _ a5 d6 _ _ a1 n9 _ ?side1 ?side2 ?side3 ?side4 s7.out).mono ?_); (case side1 => exact (Kd.C_below e2.out (pB HB.out))); (case side2 => exact g0.out); (case side3 => exact (Kd.C_below f8.out (pB HB.out))); (case side4 => exact h5.out); rintro e t9 ⟨rfl, hb⟩; replace a2 := kB a2 hb; replace HB := bS HB hb; (try clear hb); (try clear hb2); (try clear hk); (try clear hi)))
    go_meet
    case rel => exact ⟨_, (!n9), el, H', ol, ⟨pk a2.out⟩, ⟨pB HB.out⟩⟩
   rw [if_neg i7] at H
   obtain ⟨l7, l8⟩ := qf i7
   have l9 : (a1.length == a5.length) = false := by first | simpa using i7 | (simp at i7 ⊢; omega)
   have H' := am H
   clear H
   have o7 := y5 a2
   go_wp2_with (first | (go_at_call 11; (with_reducible refine (Fi.calls k b8 _ _ a5 i8 _ ?side1 ?side2 A8.out).mono ?_); (case side1 => exact (Kd.C_below e2.out (pB HB.out))); (case side2 => exact g0.out); rintro e u0 ⟨rfl, hb⟩; replace a2 := kB a2 hb; replace HB := bS HB hb; (try clear hb); (try clear hb2); (try clear hk); (try clear hi); have o8 := y5 a2))
   go_meet
   case rel => exact ⟨_, (true), el, H', ol, ⟨pk a2.out⟩, ⟨pB HB.out⟩⟩
  rw [if_neg c9] at H
  obtain ⟨q6, q7⟩ := qf c9
  have H' := am H
  clear H
  have o9 := y5 a2
  go_wp2_with (first | (go_at_call 11; (with_reducible refine (Fi.calls k b8 _ _ a5 i8 _ ?side1 ?side2 A8.out).mono ?_); (case side1 => exact (Kd.C_below e2.out (pB HB.out))); (case side2 => exact g0.out); rintro e u1 ⟨rfl, hb⟩; replace a2 := kB a2 hb; replace HB := bS HB hb; (try clear hb); (try clear hb2); (try clear hk); (try clear hi)))
  go_meet
  case rel => exact ⟨_, (true), el, H', ol, ⟨pk a2.out⟩, ⟨pB HB.out⟩⟩
 case rest =>
  clear q2
  obtain ⟨kq, h7, rfl, HA, i0, a2, HB⟩ := hcut
  cases kq with
  | zero => exact absurd HA.out (by simp [Fa.j0])
  | succ s6 =>
   have H := HA.out
   clear HA
   simp only [Fa.j0] at H
   by_cases k8 : h7 = true
   ·
    subst k8
    rw [if_pos rfl] at H
    try dsimp only at H
    obtain rfl := Option.some.inj H
    go_wp2
    go_ret
    exact ⟨er, pB HB.out⟩
   replace k8 := Bool.eq_false_iff.mpr k8
   subst k8
   rw [if_neg (show ¬ (false = true) by decide)] at H
   try dsimp only at H
   have H' := am H
   clear H
   have g4 := y5 a2
   go_wp2
   go_loopg [40] s6 (fun kq t4 w' => ∃ (a0 : Int), t4 = .int .i64 a0 ∧ Aside0 (Fa.l0 kq a1 (a1.length : Int) a0 b7 b8 a5 d6 a1 = some r) ∧ Aside0 (kq ≤ s6) ∧ Aside0 (w'.heap[a8]? = some (.cells #[.string b7, .string b8, (.slice h2 a5.length f6), .int .i64 d6, (.slice i3 a1.length f7)] 27 (0, 0))) ∧ Aside0 (Below w.heap.size w w'))
   case atStart => exact ⟨(0), el, H', ⟨Nat.le_refl _⟩, ⟨pk a2.out⟩, ⟨pB HB.out⟩⟩
   case round =>
    clear H'
    try clear k8
    try clear g4
    try clear a2; try clear HB
    obtain ⟨a0, rfl, HA, i1, a2, HB⟩ := hrel
    cases gk with
    | zero => exact absurd HA.out (by simp [Fa.l0])
    | succ k2 =>
     have H := HA.out
     clear HA
     simp only [Fa.l0] at H
     by_cases j8 : a0 < (a1.length : Int)
     ·
      rw [if_pos j8] at H
      have i9 := decide_eq_true j8
      clear j8
      by_cases m0 : 0 ≤ a0
      ·
       rw [if_pos m0] at H
       have m1 := decide_eq_true m0
       clear m0
       by_cases m2 : a0 < (a1.length : Int)
       ·
        rw [if_pos m2] at H
        have m3 := decide_eq_true m2
        clear m2
        by_cases m4 : a0 < (a5.length : Int)
        ·
         rw [if_pos m4] at H
         have m5 := decide_eq_true m4
         clear m4
         replace H := Option.bind_eq_some_iff.mp H
         obtain ⟨r0, l3, H⟩ := H
         try dsimp only at H
         have r2 := am l3
         clear l3
         by_cases m6 : r0 = true
         ·
          subst m6
          rw [if_pos rfl] at H
          try dsimp only at H
          have H' := am H
          clear H
          have g5 : 0 ≤ (a0 : Int) := od
          have g7 : a0 < (a1.length : Int) := od
          obtain ⟨a6, k0, d7, d8, d9, e0, e1⟩ := at_T51 f8.out a0 g5 g7
          cases k0
          replace d7 := bX HB d7
          replace d8 := bX HB d8
          replace d9 := bX HB d9
          replace e0 := bX HB e0
          replace e1 := bX HB e1
          replace g5 := eq_true g5
          replace g7 := eq_true g7
          try go_wp2_with (first | ((with_reducible refine gD 4 ?_); (try (refine gate_guard (by rfl) ?_; dsimp only)); refine bz 4 #[.int .i64 0, .int .i64 0, .int .i64 0, .int .i64 0, .string (⟨#[]⟩ : ByteArray)] 51 HB ?_; clear HB; intro a4 hg q0 hb a3 l6 HB; have h9 := nL hg a2; have b1 := nG hg a2; replace a2 := kB a2 hb; clear hb hg; have r8 := nn b1; have h6 := y5 a3))
          have k5 : Aside0 ((((((q0.setCell ⟨a4, 0, none⟩ (.int .i64 ((rd_T51 a1 a0).f0))).setCell ⟨a4, 1, none⟩ (.int .i64 ((rd_T51 a1 a0).f1))).setCell ⟨a4, 2, none⟩ (.int .i64 ((rd_T51 a1 a0).f2))).setCell ⟨a4, 3, none⟩ (.int .i64 ((rd_T51 a1 a0).f3))).setCell ⟨a4, 4, none⟩ (.string ((rd_T51 a1 a0).f4))).heap[a8]? = some (.cells #[.string b7, .string b8, .slice h2 a5.length f6, .int .i64 d6, .slice (some a6) a1.length f7] 27 (0, 0))) := ⟨pk a2.out⟩
          have k6 : Aside0 ((((((q0.setCell ⟨a4, 0, none⟩ (.int .i64 ((rd_T51 a1 a0).f0))).setCell ⟨a4, 1, none⟩ (.int .i64 ((rd_T51 a1 a0).f1))).setCell ⟨a4, 2, none⟩ (.int .i64 ((rd_T51 a1 a0).f2))).setCell ⟨a4, 3, none⟩ (.int .i64 ((rd_T51 a1 a0).f3))).setCell ⟨a4, 4, none⟩ (.string ((rd_T51 a1 a0).f4))).heap[a4]? = some (.cells #[.int .i64 ((rd_T51 a1 a0).f0), .int .i64 ((rd_T51 a1 a0).f1), .int .i64 ((rd_T51 a1 a0).f2), .int .i64 ((rd_T51 a1 a0).f3), .string ((rd_T51 a1 a0).f4)] 51 (0, 0))) := ⟨pP a3.out⟩
          have k7 : Aside0 (Below w.heap.size w (((((q0.setCell ⟨a4, 0, none⟩ (.int .i64 ((rd_T51 a1 a0).f0))).setCell ⟨a4, 1, none⟩ (.int .i64 ((rd_T51 a1 a0).f1))).setCell ⟨a4, 2, none⟩ (.int .i64 ((rd_T51 a1 a0).f2))).setCell ⟨a4, 3, none⟩ (.int .i64 ((rd_T51 a1 a0).f3))).setCell ⟨a4, 4, none⟩ (.string ((rd_T51 a1 a0).f4)))) := ⟨pB HB.out⟩
          (try clear a2)
          (try clear a3)
          (try clear HB)
          generalize (((((q0.setCell ⟨a4, 0, none⟩ (.int .i64 ((rd_T51 a1 a0).f0))).setCell ⟨a4, 1, none⟩ (.int .i64 ((rd_T51 a1 a0).f1))).setCell ⟨a4, 2, none⟩ (.int .i64 ((rd_T51 a1 a0).f2))).setCell ⟨a4, 3, none⟩ (.int .i64 ((rd_T51 a1 a0).f3))).setCell ⟨a4, 4, none⟩ (.string ((rd_T51 a1 a0).f4))) = t6 at k5 k6 k7 ⊢
          have a2 := k5
          have a3 := k6
          have HB := k7
          clear k5 k6 k7
          replace a2 := am (blk_drew a2.out)
          replace a3 := am (blk_drew a3.out)
          replace HB := am (below_drew1 HB.out)
          have g6 : 0 ≤ (a0 : Int) := od
          have g8 : a0 < (a5.length : Int) := od
          obtain ⟨b2, f9, g1, k1, b3, b4, b5, b6, e5, e4⟩ := at_T49 e2.out a0 g6 g8
          have d0 := b6
          have c8 := b5
          have c7 := b4
          have b9 := b3
          cases k1
          replace b3 := bX HB b3
          replace b4 := bX HB b4
          replace b5 := bX HB b5
          replace b6 := bX HB b6
          have e3 := am e4
          have g2 := am e5
          clear e4 e5
          replace g6 := eq_true g6
          replace g8 := eq_true g8
          refine start_ (n := 9) (S := fun w' => w'.cell? ⟨a8, 0, none⟩ = some (.string b7) ∧ w'.cell? ⟨a8, 1, none⟩ = some (.string b8) ∧ w'.cell? ⟨a8, 2, none⟩ = some (.slice (some b2) a5.length f6) ∧ w'.cell? ⟨a8, 3, none⟩ = some (.int .i64 d6) ∧ w'.cell? ⟨a8, 4, none⟩ = some (.slice (some a6) a1.length f7) ∧ w'.cell? ⟨a4, 0, none⟩ = some (.int .i64 ((rd_T51 a1 a0).f0)) ∧ w'.cell? ⟨a4, 1, none⟩ = some (.int .i64 ((rd_T51 a1 a0).f1)) ∧ w'.cell? ⟨a4, 2, none⟩ = some (.int .i64 ((rd_T51 a1 a0).f2)) ∧ w'.cell? ⟨a4, 3, none⟩ = some (.int .i64 ((rd_T51 a1 a0).f3)) ∧ w'.cell? ⟨a4, 4, none⟩ = some (.string ((rd_T51 a1 a0).f4)) ∧ w'.cell? (b2.add ((a0).toNat * 4)) = some (.slice f9 ((rd_T49 a5 a0).f0).length g1) ∧ w'.cell? ⟨(b2.add ((a0).toNat * 4)).block, (b2.add ((a0).toNat * 4)).off + 1, none⟩ = some (.int .i64 ((rd_T49 a5 a0).f1)) ∧ w'.cell? ⟨(b2.add ((a0).toNat * 4)).block, (b2.add ((a0).toNat * 4)).off + 2, none⟩ = some (.int .i64 ((rd_T49 a5 a0).f2)) ∧ w'.cell? ⟨(b2.add ((a0).toNat * 4)).block, (b2.add ((a0).toNat * 4)).off + 3, none⟩ = some (.int .i64 ((rd_T49 a5 a0).f3))) (ds := []) (ba 9 0) (by kernel_rfl) rfl rfl ⟨bc a2.out, bc a2.out, bc a2.out, bc a2.out, bc a2.out, bc a3.out, bc a3.out, bc a3.out, bc a3.out, bc a3.out, ((HB.out.cell (World.block_lt_of_cell? w _ b9)).trans b9), ((HB.out.cell (World.block_lt_of_cell? w _ c7)).trans c7), ((HB.out.cell (World.block_lt_of_cell? w _ c8)).trans c8), ((HB.out.cell (World.block_lt_of_cell? w _ d0)).trans d0)⟩ (fun a9 => ?_); refine with_tabW Fa.tab6 Fa.bits6 (fun b0 g3 => ?_)
          generalize t6.drew = u2 at a2 a3 HB e3 b3 b4 b5 b6 a9 ⊢
          refine pu 0 45 (ba 9 1) b0 ?_
          refine pu 1 46 (ba 9 3) b0 ?_
          refine pu 3 48 (ba 9 11) b0 ?_
          refine tk 2 47 (ba 9 15) b0 g3 a9 ?_
          refine pu 4 49 (ba 9 31) b0 ?_
          refine tk 5 50 (ba 9 63) b0 g3 a9 ?_
          refine tk 6 51 (ba 9 127) b0 g3 a9 ?_
          refine one_ (i := 7) (N := some 52) (ba 9 255) rfl rfl (one_of b0.out (by kernel_rfl)) (by decide) (fun K hK => ?_)
          refine goes_ Try.func40 (by kernel_rfl) rfl #[.agg #[.slice f9 ((rd_T49 a5 a0).f0).length g1, .int .i64 ((rd_T49 a5 a0).f1), .int .i64 ((rd_T49 a5 a0).f2), .int .i64 ((rd_T49 a5 a0).f3)], .agg #[.int .i64 ((rd_T51 a1 a0).f0), .int .i64 ((rd_T51 a1 a0).f1), .int .i64 ((rd_T51 a1 a0).f2), .int .i64 ((rd_T51 a1 a0).f3), .string ((rd_T51 a1 a0).f4)]] (by rfl) rfl rfl (by (try simp only [List.map_toArray, List.map_cons, List.map_nil]); first | done | rfl | (simp only [List.length_drop, List.length_take]; rfl)) ?_
          with_reducible refine (Fc.calls k2 _ _ ((rd_T49 a5 a0).f0) ((rd_T49 a5 a0).f1) ((rd_T49 a5 a0).f2) ((rd_T49 a5 a0).f3) ((rd_T51 a1 a0).f0) ((rd_T51 a1 a0).f1) ((rd_T51 a1 a0).f2) ((rd_T51 a1 a0).f3) ((rd_T51 a1 a0).f4) true _ ?side1 ?side2 r2.out).mono ?_
          (case side1 => exact (Kd.C_below e3.out (pB HB.out)))
          (case side2 => exact g2.out)
          rintro e u3 ⟨rfl, hb⟩
          refine ⟨_, rfl, ?_⟩
          replace a2 := kB a2 hb
          replace a3 := kB a3 hb
          replace HB := bS HB hb
          (try clear hb)
          (try clear hb2)
          (try clear hk)
          (try clear hi)
          refine hK.out _ _ ⟨bc a2.out, bc a2.out, bc a2.out, bc a2.out, bc a2.out, bc a3.out, bc a3.out, bc a3.out, bc a3.out, bc a3.out, ((HB.out.cell (World.block_lt_of_cell? w _ b9)).trans b9), ((HB.out.cell (World.block_lt_of_cell? w _ c7)).trans c7), ((HB.out.cell (World.block_lt_of_cell? w _ c8)).trans c8), ((HB.out.cell (World.block_lt_of_cell? w _ d0)).trans d0)⟩ (fun a9 => ?_)
          clear hK K
          refine nh ?_
          refine pu 8 53 (ba 9 511) b0 ?_
          refine done_ (done_of b0.out (by kernel_rfl)) ?_
          try go_wp2
          go_loopg [5] k2 (fun kq v5 w' => ∃ (a7 : Int), v5 = .int .i64 a7 ∧ Aside0 (Fa.l1 kq a0 a7 a1 (a1.length : Int) a0 b7 b8 a5 d6 a1 ((rd_T51 a1 a0).f0) ((rd_T51 a1 a0).f1) ((rd_T51 a1 a0).f2) ((rd_T51 a1 a0).f3) ((rd_T51 a1 a0).f4) = some r) ∧ Aside0 (kq ≤ k2) ∧ Aside0 (w'.heap[a8]? = some (.cells #[.string b7, .string b8, (.slice (some b2) a5.length f6), .int .i64 d6, (.slice (some a6) a1.length f7)] 27 (0, 0))) ∧ Aside0 (w'.heap[a4]? = some (.cells #[.int .i64 ((rd_T51 a1 a0).f0), .int .i64 ((rd_T51 a1 a0).f1), .int .i64 ((rd_T51 a1 a0).f2), .int .i64 ((rd_T51 a1 a0).f3), .string ((rd_T51 a1 a0).f4)] 51 (0, 0))) ∧ Aside0 (Below w.heap.size w w'))
          case atStart => exact ⟨(0), el, H', ⟨Nat.le_refl _⟩, ⟨pk a2.out⟩, ⟨pk a3.out⟩, ⟨pB HB.out⟩⟩
          case round =>
           clear H'
           try clear k8
           try clear j8
           try clear i9
           try clear m0
           try clear m1
           try clear m2
           try clear m3
           try clear m4
           try clear m5
           try clear m6
           try clear g4
           try clear h6
           try clear d7
           try clear d8
           try clear d9
           try clear e0
           try clear e1
           try clear b3
           try clear b4
           try clear b5
           try clear b6
           try clear g5
           try clear g6
           try clear g7
           try clear g8
           try clear a2; try clear a3; try clear HB
           obtain ⟨a7, rfl, HA, i2, a2, a3, HB⟩ := hrel
           cases gk with
           | zero => exact absurd HA.out (by simp [Fa.l1])
           | succ k3 =>
            have H := HA.out
            clear HA
            simp only [Fa.l1] at H
            by_cases j9 : a7 < a0
            ·
             rw [if_pos j9] at H
             have j1 := decide_eq_true j9
             clear j9
             by_cases k9 : ((rd_T51 a1 a0).f3) > 0
             ·
              rw [if_pos k9] at H
              have m7 := decide_eq_true k9
              clear k9
              by_cases o1 : 0 ≤ a7
              ·
               rw [if_pos o1] at H
               have r6 := decide_eq_true o1
               clear o1
               by_cases o2 : a7 < (a1.length : Int)
               ·
                rw [if_pos o2] at H
                have r7 := decide_eq_true o2
                clear o2
                by_cases m8 : ((rd_T51 a1 a7).f3) = ((rd_T51 a1 a0).f3)
                ·
                 rw [if_pos m8] at H
                 obtain ⟨m9, n0⟩ := qt m8
                 clear m8
                 obtain rfl := Option.some.inj H
                 try go_wp2
                 replace a2 := am (blk_drew a2.out)
                 replace a3 := am (blk_drew a3.out)
                 replace HB := am (below_drew1 HB.out)
                 have h3 : 0 ≤ (a7 : Int) := od
                 have h4 : a7 < (a1.length : Int) := od
                 obtain ⟨i4, k4, d1, d2, d3, d4, d5⟩ := at_T51 f8.out a7 h3 h4
                 have f5 := d5
                 have e9 := d4
                 have e8 := d3
                 have e7 := d2
                 have e6 := d1
                 obtain rfl : a6 = i4 := (by injection k4)
                 replace d1 := bX HB d1
                 replace d2 := bX HB d2
                 replace d3 := bX HB d3
                 replace d4 := bX HB d4
                 replace d5 := bX HB d5
                 replace h3 := eq_true h3
                 replace h4 := eq_true h4
                 refine start_ (n := 14) (S := fun w' => w'.cell? ⟨a4, 0, none⟩ = some (.int .i64 ((rd_T51 a1 a0).f0)) ∧ w'.cell? ⟨a4, 1, none⟩ = some (.int .i64 ((rd_T51 a1 a0).f1)) ∧ w'.cell? ⟨a4, 2, none⟩ = some (.int .i64 ((rd_T51 a1 a0).f2)) ∧ w'.cell? ⟨a4, 3, none⟩ = some (.int .i64 ((rd_T51 a1 a0).f3)) ∧ w'.cell? ⟨a4, 4, none⟩ = some (.string ((rd_T51 a1 a0).f4)) ∧ w'.cell? ⟨a8, 0, none⟩ = some (.string b7) ∧ w'.cell? ⟨a8, 1, none⟩ = some (.string b8) ∧ w'.cell? ⟨a8, 2, none⟩ = some (.slice (some b2) a5.length f6) ∧ w'.cell? ⟨a8, 3, none⟩ = some (.int .i64 d6) ∧ w'.cell? ⟨a8, 4, none⟩ = some (.slice (some a6) a1.length f7) ∧ w'.cell? (a6.add ((a7).toNat * 5)) = some (.int .i64 ((rd_T51 a1 a7).f0)) ∧ w'.cell? ⟨(a6.add ((a7).toNat * 5)).block, (a6.add ((a7).toNat * 5)).off + 1, none⟩ = some (.int .i64 ((rd_T51 a1 a7).f1)) ∧ w'.cell? ⟨(a6.add ((a7).toNat * 5)).block, (a6.add ((a7).toNat * 5)).off + 2, none⟩ = some (.int .i64 ((rd_T51 a1 a7).f2)) ∧ w'.cell? ⟨(a6.add ((a7).toNat * 5)).block, (a6.add ((a7).toNat * 5)).off + 3, none⟩ = some (.int .i64 ((rd_T51 a1 a7).f3)) ∧ w'.cell? ⟨(a6.add ((a7).toNat * 5)).block, (a6.add ((a7).toNat * 5)).off + 4, none⟩ = some (.string ((rd_T51 a1 a7).f4))) (ds := []) (ba 14 0) (by kernel_rfl) rfl rfl ⟨bc a3.out, bc a3.out, bc a3.out, bc a3.out, bc a3.out, bc a2.out, bc a2.out, bc a2.out, bc a2.out, bc a2.out, ((HB.out.cell (World.block_lt_of_cell? w _ e6)).trans e6), ((HB.out.cell (World.block_lt_of_cell? w _ e7)).trans e7), ((HB.out.cell (World.block_lt_of_cell? w _ e8)).trans e8), ((HB.out.cell (World.block_lt_of_cell? w _ e9)).trans e9), ((HB.out.cell (World.block_lt_of_cell? w _ f5)).trans f5)⟩ (fun a9 => ?_); refine with_tabW Fa.tab11 Fa.bits11 (fun b0 g3 => ?_)
                 generalize wr.drew = u4 at a2 a3 HB d1 d2 d3 d4 d5 a9 ⊢
                 refine pu 0 59 (ba 14 1) b0 ?_
                 refine tk 1 60 (ba 14 3) b0 g3 a9 ?_
                 refine pu 2 61 (ba 14 7) b0 ?_
                 refine pu 3 62 (ba 14 15) b0 ?_
                 refine pu 4 63 (ba 14 31) b0 ?_
                 refine pu 6 65 (ba 14 95) b0 ?_
                 refine pu 10 69 (ba 14 1119) b0 ?_
                 refine tk 5 64 (ba 14 1151) b0 g3 a9 ?_
                 refine pu 7 66 (ba 14 1279) b0 ?_
                 refine pu 8 67 (ba 14 1535) b0 ?_
                 refine tk 9 68 (ba 14 2047) b0 g3 a9 ?_
                 refine tk 11 70 (ba 14 4095) b0 g3 a9 ?_
                 refine pu 12 71 (ba 14 8191) b0 ?_
                 refine pu 13 72 (ba 14 16383) b0 ?_
                 refine done_ (done_of b0.out (by kernel_rfl)) ?_
                 try go_wp2
                 go_ret
                 exact ⟨er, pB HB.out⟩
                rw [if_neg m8] at H
                obtain ⟨m9, n0⟩ := qf m8
                have H' := am H
                clear H
                try go_wp2
                replace a2 := am (blk_drew a2.out)
                replace a3 := am (blk_drew a3.out)
                replace HB := am (below_drew1 HB.out)
                have h3 : 0 ≤ (a7 : Int) := od
                have h4 : a7 < (a1.length : Int) := od
                obtain ⟨i4, k4, d1, d2, d3, d4, d5⟩ := at_T51 f8.out a7 h3 h4
                have f5 := d5
                have e9 := d4
                have e8 := d3
                have e7 := d2
                have e6 := d1
                obtain rfl : a6 = i4 := (by injection k4)
                replace d1 := bX HB d1
                replace d2 := bX HB d2
                replace d3 := bX HB d3
                replace d4 := bX HB d4
                replace d5 := bX HB d5
                replace h3 := eq_true h3
                replace h4 := eq_true h4
                refine start_ (n := 14) (S := fun w' => w'.cell? ⟨a4, 0, none⟩ = some (.int .i64 ((rd_T51 a1 a0).f0)) ∧ w'.cell? ⟨a4, 1, none⟩ = some (.int .i64 ((rd_T51 a1 a0).f1)) ∧ w'.cell? ⟨a4, 2, none⟩ = some (.int .i64 ((rd_T51 a1 a0).f2)) ∧ w'.cell? ⟨a4, 3, none⟩ = some (.int .i64 ((rd_T51 a1 a0).f3)) ∧ w'.cell? ⟨a4, 4, none⟩ = some (.string ((rd_T51 a1 a0).f4)) ∧ w'.cell? ⟨a8, 0, none⟩ = some (.string b7) ∧ w'.cell? ⟨a8, 1, none⟩ = some (.string b8) ∧ w'.cell? ⟨a8, 2, none⟩ = some (.slice (some b2) a5.length f6) ∧ w'.cell? ⟨a8, 3, none⟩ = some (.int .i64 d6) ∧ w'.cell? ⟨a8, 4, none⟩ = some (.slice (some a6) a1.length f7) ∧ w'.cell? (a6.add ((a7).toNat * 5)) = some (.int .i64 ((rd_T51 a1 a7).f0)) ∧ w'.cell? ⟨(a6.add ((a7).toNat * 5)).block, (a6.add ((a7).toNat * 5)).off + 1, none⟩ = some (.int .i64 ((rd_T51 a1 a7).f1)) ∧ w'.cell? ⟨(a6.add ((a7).toNat * 5)).block, (a6.add ((a7).toNat * 5)).off + 2, none⟩ = some (.int .i64 ((rd_T51 a1 a7).f2)) ∧ w'.cell? ⟨(a6.add ((a7).toNat * 5)).block, (a6.add ((a7).toNat * 5)).off + 3, none⟩ = some (.int .i64 ((rd_T51 a1 a7).f3)) ∧ w'.cell? ⟨(a6.add ((a7).toNat * 5)).block, (a6.add ((a7).toNat * 5)).off + 4, none⟩ = some (.string ((rd_T51 a1 a7).f4))) (ds := []) (ba 14 0) (by kernel_rfl) rfl rfl ⟨bc a3.out, bc a3.out, bc a3.out, bc a3.out, bc a3.out, bc a2.out, bc a2.out, bc a2.out, bc a2.out, bc a2.out, ((HB.out.cell (World.block_lt_of_cell? w _ e6)).trans e6), ((HB.out.cell (World.block_lt_of_cell? w _ e7)).trans e7), ((HB.out.cell (World.block_lt_of_cell? w _ e8)).trans e8), ((HB.out.cell (World.block_lt_of_cell? w _ e9)).trans e9), ((HB.out.cell (World.block_lt_of_cell? w _ f5)).trans f5)⟩ (fun a9 => ?_); refine with_tabW Fa.tab11 Fa.bits11 (fun b0 g3 => ?_)
                generalize wr.drew = u5 at a2 a3 HB d1 d2 d3 d4 d5 a9 ⊢
                refine pu 0 59 (ba 14 1) b0 ?_
                refine tk 1 60 (ba 14 3) b0 g3 a9 ?_
                refine pu 2 61 (ba 14 7) b0 ?_
                refine pu 3 62 (ba 14 15) b0 ?_
                refine pu 4 63 (ba 14 31) b0 ?_
                refine pu 6 65 (ba 14 95) b0 ?_
                refine pu 10 69 (ba 14 1119) b0 ?_
                refine tk 5 64 (ba 14 1151) b0 g3 a9 ?_
                refine pu 7 66 (ba 14 1279) b0 ?_
                refine pu 8 67 (ba 14 1535) b0 ?_
                refine tk 9 68 (ba 14 2047) b0 g3 a9 ?_
                refine tk 11 70 (ba 14 4095) b0 g3 a9 ?_
                refine pu 12 71 (ba 14 8191) b0 ?_
                refine pu 13 72 (ba 14 16383) b0 ?_
                refine done_ (done_of b0.out (by kernel_rfl)) ?_
                try go_wp2
                go_roundg k3
                case measure => have := i0.out; have := i1.out; have := i2.out; omega
                case rel => exact ⟨(wrap64 (a7 + 1)), el, H', ⟨by have := i0.out; have := i1.out; have := i2.out; omega⟩, ⟨pk a2.out⟩, ⟨pk a3.out⟩, ⟨pB HB.out⟩⟩
               rw [if_neg o2] at H
               exact absurd H (by simp)
              rw [if_neg o1] at H
              exact absurd H (by simp)
             rw [if_neg k9] at H
             have m7 := decide_eq_false k9
             clear k9
             have H' := am H
             clear H
             try go_wp2
             replace a2 := am (blk_drew a2.out)
             replace a3 := am (blk_drew a3.out)
             replace HB := am (below_drew1 HB.out)
             refine start_ (n := 14) (S := fun w' => w'.cell? ⟨a4, 0, none⟩ = some (.int .i64 ((rd_T51 a1 a0).f0)) ∧ w'.cell? ⟨a4, 1, none⟩ = some (.int .i64 ((rd_T51 a1 a0).f1)) ∧ w'.cell? ⟨a4, 2, none⟩ = some (.int .i64 ((rd_T51 a1 a0).f2)) ∧ w'.cell? ⟨a4, 3, none⟩ = some (.int .i64 ((rd_T51 a1 a0).f3)) ∧ w'.cell? ⟨a4, 4, none⟩ = some (.string ((rd_T51 a1 a0).f4))) (ds := []) (ba 14 0) (by kernel_rfl) rfl rfl ⟨bc a3.out, bc a3.out, bc a3.out, bc a3.out, bc a3.out⟩ (fun a9 => ?_); refine with_tabW Fa.tab11 Fa.bits11 (fun b0 g3 => ?_)
             generalize wr.drew = u6 at a2 a3 HB a9 ⊢
             refine pu 0 59 (ba 14 1) b0 ?_
             refine tk 1 60 (ba 14 3) b0 g3 a9 ?_
             refine pu 2 61 (ba 14 7) b0 ?_
             refine pu 3 62 (ba 14 15) b0 ?_
             refine pe 4 63 (ba 14 31) b0 ?_
             refine pe 5 64 (ba 14 63) b0 ?_
             refine pe 6 65 (ba 14 127) b0 ?_
             refine pe 7 66 (ba 14 255) b0 ?_
             refine pe 8 67 (ba 14 511) b0 ?_
             refine pe 9 68 (ba 14 1023) b0 ?_
             refine pe 10 69 (ba 14 2047) b0 ?_
             refine pe 11 70 (ba 14 4095) b0 ?_
             refine pe 12 71 (ba 14 8191) b0 ?_
             refine pu 13 72 (ba 14 16383) b0 ?_
             refine done_ (done_of b0.out (by kernel_rfl)) ?_
             try go_wp2
             go_roundg k3
             case measure => have := i0.out; have := i1.out; have := i2.out; omega
             case rel => exact ⟨(wrap64 (a7 + 1)), el, H', ⟨by have := i0.out; have := i1.out; have := i2.out; omega⟩, ⟨pk a2.out⟩, ⟨pk a3.out⟩, ⟨pB HB.out⟩⟩
            rw [if_neg j9] at H
            have j1 := decide_eq_false j9
            clear j9
            have j7 := am H
            clear H
            go_upto_region 13 with (fail)
            go_cut [80] (fun t5 wc => ∃ (kq : Nat) (g9 : Bool), t5 = .bool g9 ∧ Aside0 (Fa.j3 kq a0 a1 (a1.length : Int) a0 g9 b7 b8 a5 d6 a1 ((rd_T51 a1 a0).f0) ((rd_T51 a1 a0).f1) ((rd_T51 a1 a0).f2) ((rd_T51 a1 a0).f3) ((rd_T51 a1 a0).f4) = some r) ∧ Aside0 (kq ≤ k3) ∧ Aside0 (wc.heap[a8]? = some (.cells #[.string b7, .string b8, (.slice (some b2) a5.length f6), .int .i64 d6, (.slice (some a6) a1.length f7)] 27 (0, 0))) ∧ Aside0 (wc.heap[a4]? = some (.cells #[.int .i64 ((rd_T51 a1 a0).f0), .int .i64 ((rd_T51 a1 a0).f1), .int .i64 ((rd_T51 a1 a0).f2), .int .i64 ((rd_T51 a1 a0).f3), .string ((rd_T51 a1 a0).f4)] 51 (0, 0))) ∧ Aside0 (Below w.heap.size w wc))
            case first =>
             have H := j7.out
             clear j7
             by_cases n1 : ((rd_T51 a1 a0).f0) = 0
             ·
              rw [if_pos n1] at H
              obtain ⟨h0, n2⟩ := qt n1
              clear n1
              (first | rw [h0] | (simp only [i64_w, i32_w]; rw [h0]) | skip)
              replace H := Option.bind_eq_some_iff.mp H
              obtain ⟨o0, l4, H⟩ := H
              try dsimp only at H
              have s8 := am l4
              clear l4
              have H' := am H
              clear H
              have r9 := nn b1
              have p0 := y5 a3
              have p1 := y5 a2
              go_wp2_with (first | (go_at_call 41; (with_reducible refine (Fk.calls k3 b7 b8 _ _ a5 d6 _ _ a1 a0 o0 _ ?side1 ?side2 ?side3 ?side4 s8.out).mono ?_); (case side1 => exact (Kd.C_below e2.out (pB HB.out))); (case side2 => exact g0.out); (case side3 => exact (Kd.C_below f8.out (pB HB.out))); (case side4 => exact h5.out); rintro e u7 ⟨rfl, hb⟩; replace a2 := kB a2 hb; replace a3 := kB a3 hb; replace HB := bS HB hb; (try clear hb); (try clear hb2); (try clear hk); (try clear hi)))
              go_meet
              case rel => exact ⟨_, (o0), el, H', ⟨by have := i0.out; have := i1.out; have := i2.out; first | omega | exact Nat.le_refl _⟩, ⟨pk a2.out⟩, ⟨pk a3.out⟩, ⟨pB HB.out⟩⟩
             rw [if_neg n1] at H
             obtain ⟨h0, n2⟩ := qf n1
             (first | rw [h0] | (simp only [i64_w, i32_w]; rw [h0]) | skip)
             have H' := am H
             clear H
             have s0 := nn b1
             have p2 := y5 a3
             go_wp2
             go_meet
             case rel => exact ⟨_, (false), el, H', ⟨by have := i0.out; have := i1.out; have := i2.out; first | omega | exact Nat.le_refl _⟩, ⟨pk a2.out⟩, ⟨pk a3.out⟩, ⟨pB HB.out⟩⟩
            case rest =>
             clear j7
             try clear j9
             try clear j1
             try clear g4
             try clear h6
             try clear d7
             try clear d8
             try clear d9
             try clear e0
             try clear e1
             try clear b3
             try clear b4
             try clear b5
             try clear b6
             try clear g5
             try clear g6
             try clear g7
             try clear g8
             obtain ⟨kq, g9, rfl, HA, h8, a2, a3, HB⟩ := hcut
             cases kq with
             | zero => exact absurd HA.out (by simp [Fa.j3])
             | succ i6 =>
              have H := HA.out
              clear HA
              simp only [Fa.j3] at H
              by_cases o3 : g9 = true
              ·
               subst o3
               rw [if_pos rfl] at H
               try dsimp only at H
               obtain rfl := Option.some.inj H
               go_wp2
               go_ret
               exact ⟨er, pB HB.out⟩
              replace o3 := Bool.eq_false_iff.mpr o3
              subst o3
              rw [if_neg (show ¬ (false = true) by decide)] at H
              try dsimp only at H
              by_cases n3 : ((rd_T51 a1 a0).f0) = 0
              ·
               rw [if_pos n3] at H
               obtain ⟨n4, n5⟩ := qt n3
               clear n3
               have H' := am H
               clear H
               have s1 := nn b1
               have p3 := y5 a3
               go_wp2
               go_roundg i6
               case measure => have := i0.out; have := i1.out; have := i2.out; have := h8.out; omega
               case rel => exact ⟨(wrap64 (a0 + 1)), el, H', ⟨by have := i0.out; have := i1.out; have := i2.out; have := h8.out; omega⟩, ⟨pk a2.out⟩, ⟨pB HB.out⟩⟩
              rw [if_neg n3] at H
              obtain ⟨n4, n5⟩ := qf n3
              by_cases n6 : ((rd_T51 a1 a0).f0) = 5
              ·
               rw [if_pos n6] at H
               obtain ⟨n7, n8⟩ := qt n6
               clear n6
               have H' := am H
               clear H
               have s2 := nn b1
               have p4 := y5 a3
               go_wp2
               go_roundg i6
               case measure => have := i0.out; have := i1.out; have := i2.out; have := h8.out; omega
               case rel => exact ⟨(wrap64 (a0 + 1)), el, H', ⟨by have := i0.out; have := i1.out; have := i2.out; have := h8.out; omega⟩, ⟨pk a2.out⟩, ⟨pB HB.out⟩⟩
              rw [if_neg n6] at H
              obtain ⟨n7, n8⟩ := qf n6
              replace H := Option.bind_eq_some_iff.mp H
              obtain ⟨r1, l5, H⟩ := H
              try dsimp only at H
              have r3 := am l5
              clear l5
              by_cases o4 : r1 = true
              ·
               subst o4
               rw [if_pos rfl] at H
               try dsimp only at H
               have H' := am H
               clear H
               have s3 := nn b1
               have p5 := y5 a3
               have p6 := y5 a2
               go_wp2_with (first | (go_at_call 41; (with_reducible refine (Fk.calls i6 b7 b8 _ _ a5 d6 _ _ a1 a0 true _ ?side1 ?side2 ?side3 ?side4 r3.out).mono ?_); (case side1 => exact (Kd.C_below e2.out (pB HB.out))); (case side2 => exact g0.out); (case side3 => exact (Kd.C_below f8.out (pB HB.out))); (case side4 => exact h5.out); rintro e u8 ⟨rfl, hb⟩; replace a2 := kB a2 hb; replace a3 := kB a3 hb; replace HB := bS HB hb; (try clear hb); (try clear hb2); (try clear hk); (try clear hi)))
               go_roundg i6
               case measure => have := i0.out; have := i1.out; have := i2.out; have := h8.out; omega
               case rel => exact ⟨(wrap64 (a0 + 1)), el, H', ⟨by have := i0.out; have := i1.out; have := i2.out; have := h8.out; omega⟩, ⟨pk a2.out⟩, ⟨pB HB.out⟩⟩
              replace o4 := Bool.eq_false_iff.mpr o4
              subst o4
              rw [if_neg (show ¬ (false = true) by decide)] at H
              try dsimp only at H
              obtain rfl := Option.some.inj H
              have s4 := nn b1
              have p7 := y5 a3
              have p8 := y5 a2
              go_wp2_with (first | (go_at_call 41; (with_reducible refine (Fk.calls i6 b7 b8 _ _ a5 d6 _ _ a1 a0 false _ ?side1 ?side2 ?side3 ?side4 r3.out).mono ?_); (case side1 => exact (Kd.C_below e2.out (pB HB.out))); (case side2 => exact g0.out); (case side3 => exact (Kd.C_below f8.out (pB HB.out))); (case side4 => exact h5.out); rintro e u9 ⟨rfl, hb⟩; replace a2 := kB a2 hb; replace a3 := kB a3 hb; replace HB := bS HB hb; (try clear hb); (try clear hb2); (try clear hk); (try clear hi)))
              go_ret
              exact ⟨er, pB HB.out⟩
         replace m6 := Bool.eq_false_iff.mpr m6
         subst m6
         rw [if_neg (show ¬ (false = true) by decide)] at H
         try dsimp only at H
         obtain rfl := Option.some.inj H
         have g5 : 0 ≤ (a0 : Int) := od
         have g7 : a0 < (a1.length : Int) := od
         obtain ⟨a6, k0, d7, d8, d9, e0, e1⟩ := at_T51 f8.out a0 g5 g7
         cases k0
         replace d7 := bX HB d7
         replace d8 := bX HB d8
         replace d9 := bX HB d9
         replace e0 := bX HB e0
         replace e1 := bX HB e1
         replace g5 := eq_true g5
         replace g7 := eq_true g7
         try go_wp2_with (first | ((with_reducible refine gD 4 ?_); (try (refine gate_guard (by rfl) ?_; dsimp only)); refine bz 4 #[.int .i64 0, .int .i64 0, .int .i64 0, .int .i64 0, .string (⟨#[]⟩ : ByteArray)] 51 HB ?_; clear HB; intro a4 hg q1 hb a3 l6 HB; have h9 := nL hg a2; have b1 := nG hg a2; replace a2 := kB a2 hb; clear hb hg; have s5 := nn b1; have p9 := y5 a3))
         have k5 : Aside0 ((((((q1.setCell ⟨a4, 0, none⟩ (.int .i64 ((rd_T51 a1 a0).f0))).setCell ⟨a4, 1, none⟩ (.int .i64 ((rd_T51 a1 a0).f1))).setCell ⟨a4, 2, none⟩ (.int .i64 ((rd_T51 a1 a0).f2))).setCell ⟨a4, 3, none⟩ (.int .i64 ((rd_T51 a1 a0).f3))).setCell ⟨a4, 4, none⟩ (.string ((rd_T51 a1 a0).f4))).heap[a8]? = some (.cells #[.string b7, .string b8, .slice h2 a5.length f6, .int .i64 d6, .slice (some a6) a1.length f7] 27 (0, 0))) := ⟨pk a2.out⟩
         have k6 : Aside0 ((((((q1.setCell ⟨a4, 0, none⟩ (.int .i64 ((rd_T51 a1 a0).f0))).setCell ⟨a4, 1, none⟩ (.int .i64 ((rd_T51 a1 a0).f1))).setCell ⟨a4, 2, none⟩ (.int .i64 ((rd_T51 a1 a0).f2))).setCell ⟨a4, 3, none⟩ (.int .i64 ((rd_T51 a1 a0).f3))).setCell ⟨a4, 4, none⟩ (.string ((rd_T51 a1 a0).f4))).heap[a4]? = some (.cells #[.int .i64 ((rd_T51 a1 a0).f0), .int .i64 ((rd_T51 a1 a0).f1), .int .i64 ((rd_T51 a1 a0).f2), .int .i64 ((rd_T51 a1 a0).f3), .string ((rd_T51 a1 a0).f4)] 51 (0, 0))) := ⟨pP a3.out⟩
         have k7 : Aside0 (Below w.heap.size w (((((q1.setCell ⟨a4, 0, none⟩ (.int .i64 ((rd_T51 a1 a0).f0))).setCell ⟨a4, 1, none⟩ (.int .i64 ((rd_T51 a1 a0).f1))).setCell ⟨a4, 2, none⟩ (.int .i64 ((rd_T51 a1 a0).f2))).setCell ⟨a4, 3, none⟩ (.int .i64 ((rd_T51 a1 a0).f3))).setCell ⟨a4, 4, none⟩ (.string ((rd_T51 a1 a0).f4)))) := ⟨pB HB.out⟩
         (try clear a2)
         (try clear a3)
         (try clear HB)
         generalize (((((q1.setCell ⟨a4, 0, none⟩ (.int .i64 ((rd_T51 a1 a0).f0))).setCell ⟨a4, 1, none⟩ (.int .i64 ((rd_T51 a1 a0).f1))).setCell ⟨a4, 2, none⟩ (.int .i64 ((rd_T51 a1 a0).f2))).setCell ⟨a4, 3, none⟩ (.int .i64 ((rd_T51 a1 a0).f3))).setCell ⟨a4, 4, none⟩ (.string ((rd_T51 a1 a0).f4))) = t7 at k5 k6 k7 ⊢
         have a2 := k5
         have a3 := k6
         have HB := k7
         clear k5 k6 k7
         replace a2 := am (blk_drew a2.out)
         replace a3 := am (blk_drew a3.out)
         replace HB := am (below_drew1 HB.out)
         have g6 : 0 ≤ (a0 : Int) := od
         have g8 : a0 < (a5.length : Int) := od
         obtain ⟨b2, f9, g1, k1, b3, b4, b5, b6, e5, e4⟩ := at_T49 e2.out a0 g6 g8
         have d0 := b6
         have c8 := b5
         have c7 := b4
         have b9 := b3
         cases k1
         replace b3 := bX HB b3
         replace b4 := bX HB b4
         replace b5 := bX HB b5
         replace b6 := bX HB b6
         have e3 := am e4
         have g2 := am e5
         clear e4 e5
         replace g6 := eq_true g6
         replace g8 := eq_true g8
         refine start_ (n := 9) (S := fun w' => w'.cell? ⟨a8, 0, none⟩ = some (.string b7) ∧ w'.cell? ⟨a8, 1, none⟩ = some (.string b8) ∧ w'.cell? ⟨a8, 2, none⟩ = some (.slice (some b2) a5.length f6) ∧ w'.cell? ⟨a8, 3, none⟩ = some (.int .i64 d6) ∧ w'.cell? ⟨a8, 4, none⟩ = some (.slice (some a6) a1.length f7) ∧ w'.cell? ⟨a4, 0, none⟩ = some (.int .i64 ((rd_T51 a1 a0).f0)) ∧ w'.cell? ⟨a4, 1, none⟩ = some (.int .i64 ((rd_T51 a1 a0).f1)) ∧ w'.cell? ⟨a4, 2, none⟩ = some (.int .i64 ((rd_T51 a1 a0).f2)) ∧ w'.cell? ⟨a4, 3, none⟩ = some (.int .i64 ((rd_T51 a1 a0).f3)) ∧ w'.cell? ⟨a4, 4, none⟩ = some (.string ((rd_T51 a1 a0).f4)) ∧ w'.cell? (b2.add ((a0).toNat * 4)) = some (.slice f9 ((rd_T49 a5 a0).f0).length g1) ∧ w'.cell? ⟨(b2.add ((a0).toNat * 4)).block, (b2.add ((a0).toNat * 4)).off + 1, none⟩ = some (.int .i64 ((rd_T49 a5 a0).f1)) ∧ w'.cell? ⟨(b2.add ((a0).toNat * 4)).block, (b2.add ((a0).toNat * 4)).off + 2, none⟩ = some (.int .i64 ((rd_T49 a5 a0).f2)) ∧ w'.cell? ⟨(b2.add ((a0).toNat * 4)).block, (b2.add ((a0).toNat * 4)).off + 3, none⟩ = some (.int .i64 ((rd_T49 a5 a0).f3))) (ds := []) (ba 9 0) (by kernel_rfl) rfl rfl ⟨bc a2.out, bc a2.out, bc a2.out, bc a2.out, bc a2.out, bc a3.out, bc a3.out, bc a3.out, bc a3.out, bc a3.out, ((HB.out.cell (World.block_lt_of_cell? w _ b9)).trans b9), ((HB.out.cell (World.block_lt_of_cell? w _ c7)).trans c7), ((HB.out.cell (World.block_lt_of_cell? w _ c8)).trans c8), ((HB.out.cell (World.block_lt_of_cell? w _ d0)).trans d0)⟩ (fun a9 => ?_); refine with_tabW Fa.tab6 Fa.bits6 (fun b0 g3 => ?_)
         generalize t7.drew = v0 at a2 a3 HB e3 b3 b4 b5 b6 a9 ⊢
         refine pu 0 45 (ba 9 1) b0 ?_
         refine pu 1 46 (ba 9 3) b0 ?_
         refine pu 3 48 (ba 9 11) b0 ?_
         refine tk 2 47 (ba 9 15) b0 g3 a9 ?_
         refine pu 4 49 (ba 9 31) b0 ?_
         refine tk 5 50 (ba 9 63) b0 g3 a9 ?_
         refine tk 6 51 (ba 9 127) b0 g3 a9 ?_
         refine one_ (i := 7) (N := some 52) (ba 9 255) rfl rfl (one_of b0.out (by kernel_rfl)) (by decide) (fun K hK => ?_)
         refine goes_ Try.func40 (by kernel_rfl) rfl #[.agg #[.slice f9 ((rd_T49 a5 a0).f0).length g1, .int .i64 ((rd_T49 a5 a0).f1), .int .i64 ((rd_T49 a5 a0).f2), .int .i64 ((rd_T49 a5 a0).f3)], .agg #[.int .i64 ((rd_T51 a1 a0).f0), .int .i64 ((rd_T51 a1 a0).f1), .int .i64 ((rd_T51 a1 a0).f2), .int .i64 ((rd_T51 a1 a0).f3), .string ((rd_T51 a1 a0).f4)]] (by rfl) rfl rfl (by (try simp only [List.map_toArray, List.map_cons, List.map_nil]); first | done | rfl | (simp only [List.length_drop, List.length_take]; rfl)) ?_
         with_reducible refine (Fc.calls k2 _ _ ((rd_T49 a5 a0).f0) ((rd_T49 a5 a0).f1) ((rd_T49 a5 a0).f2) ((rd_T49 a5 a0).f3) ((rd_T51 a1 a0).f0) ((rd_T51 a1 a0).f1) ((rd_T51 a1 a0).f2) ((rd_T51 a1 a0).f3) ((rd_T51 a1 a0).f4) false _ ?side1 ?side2 r2.out).mono ?_
         (case side1 => exact (Kd.C_below e3.out (pB HB.out)))
         (case side2 => exact g2.out)
         rintro e v1 ⟨rfl, hb⟩
         refine ⟨_, rfl, ?_⟩
         replace a2 := kB a2 hb
         replace a3 := kB a3 hb
         replace HB := bS HB hb
         (try clear hb)
         (try clear hb2)
         (try clear hk)
         (try clear hi)
         refine hK.out _ _ ⟨bc a2.out, bc a2.out, bc a2.out, bc a2.out, bc a2.out, bc a3.out, bc a3.out, bc a3.out, bc a3.out, bc a3.out, ((HB.out.cell (World.block_lt_of_cell? w _ b9)).trans b9), ((HB.out.cell (World.block_lt_of_cell? w _ c7)).trans c7), ((HB.out.cell (World.block_lt_of_cell? w _ c8)).trans c8), ((HB.out.cell (World.block_lt_of_cell? w _ d0)).trans d0)⟩ (fun a9 => ?_)
         clear hK K
         refine nh ?_
         refine pu 8 53 (ba 9 511) b0 ?_
         refine done_ (done_of b0.out (by kernel_rfl)) ?_
         try go_wp2
         go_ret
         exact ⟨er, pB HB.out⟩
        rw [if_neg m4] at H
        exact absurd H (by simp)
       rw [if_neg m2] at H
       exact absurd H (by simp)
      rw [if_neg m0] at H
      exact absurd H (by simp)
     rw [if_neg j8] at H
     have i9 := decide_eq_false j8
     clear j8
     obtain rfl := Option.some.inj H
     go_wp2
     go_ret
     exact ⟨er, pB HB.out⟩
end Go.Proofs.Ytabmkighhmchmaa.X
namespace Go.Proofs.YtabmkighhmchmaaW.Sq
open Go.RowKit Go.Proofs.YtabmkighhmchmaaW.PrintWords Go.Proofs.YtabmkighhmchmaaW.PrintLast Go.Proofs.YtabmkighhmchmaaW.PrintMore
theorem vaw {α : Type} {d : Kd α} {e base n c g : Nat} {ok : Nat → Prop} {w : World} {ad : Addr} {xs : List α} (h : Kd.V d e w base ok (.slice (some ad) n c) xs) (hok : ∀ k, ok k → k ≠ g) (hs : 0 < d.sz := by first | decide | exact Nat.zero_lt_succ _) (hn : 0 < xs.length := by omega) : ad.block ≠ g := by
 obtain ⟨A, c', hv, hl, hf⟩ := h
 injection hv with h1 h2 h3
 subst h1
 exact hok _ (Kd.F_in hf rfl hn hs)
end Go.Proofs.YtabmkighhmchmaaW.Sq
namespace Go.Proofs.Ytabmkighhmchmaa.X
open Go.RowKit Go.Proofs.YtabmkighhmchmaaW.PrintWords Go.Proofs.YtabmkighhmchmaaW.PrintLast Go.Proofs.YtabmkighhmchmaaW.PrintMore Go.Proofs.YtabmkighhmchmaaW.Sq
attribute [local go_sem] max2_int min2_int max_two min_two max_three min_three max_four min_four
set_option linter.unusedVariables false
set_option linter.unusedSimpArgs false
def Fv.f (k : Nat)  : Option (Bool) := (Ge.f k (⟨#[107]⟩ : ByteArray) (⟨#[97]⟩ : ByteArray) (([(⟨([] : List Int), 1, 0, 1⟩ : S49)] : List (S49)))).bind fun a0 => (if a0.2.2.2.2.2 = 0 then (if (a0.2.2.2.2.1.length : Int) = 1 then (if 0 < (a0.2.2.2.2.1.length : Int) then (if ((rd_T51 a0.2.2.2.2.1 0).f0) = 1 then ((Gg.f k a0.1 a0.2.1 a0.2.2.1 a0.2.2.2.1 a0.2.2.2.2.1).bind fun a1 => (some a1)) else (some false)) else (none)) else (some false)) else (some false))
set_option maxHeartbeats 8000000 in
set_option maxRecDepth 100000 in
theorem Fv.calls (k : Nat)  (r : Bool) (w : World) (h : Fv.f k  = some r) :
  Calls Try.prog 16 #[] w fun e w' => e = .returned (.bool r) ∧ Below w.heap.size w w' := by
 have k3 := Try.underlying49
 have k1 := Try.underlying24
 have k2 := Try.underlying27
 have HB := am (Below.refl w.heap.size w)
 unfold Fv.f at h
 have H := h
 clear h
 obtain ⟨y241, hy241⟩ : ∃ y_ : List (S49), y_ = (([(⟨([] : List Int), 1, 0, 1⟩ : S49)] : List (S49))) := ⟨_, rfl⟩
 replace H : ((Ge.f k (⟨#[107]⟩ : ByteArray) (⟨#[97]⟩ : ByteArray) y241).bind fun c7 => (if c7.2.2.2.2.2 = 0 then (if (c7.2.2.2.2.1.length : Int) = 1 then (if 0 < (c7.2.2.2.2.1.length : Int) then (if ((rd_T51 c7.2.2.2.2.1 0).f0) = 1 then ((Gg.f k c7.1 c7.2.1 c7.2.2.1 c7.2.2.2.1 c7.2.2.2.2.1).bind fun e8 => (some e8)) else (some false)) else (none)) else (some false)) else (some false))) = some r := by first | (rw [hy241]; with_reducible exact H) | (have g2 := (Option.bind_some _ _).symm.trans H; rw [hy241]; with_reducible exact g2) | (have g2 := (Option.bind_some _ _).symm.trans H; with_reducible exact g2) | with_reducible exact H | (rw [hy241]; exact H) | exact H
 have c9 := am hy241
 clear hy241
 replace H := Option.bind_eq_some_iff.mp H
 obtain ⟨⟨b6, b7, b8, b9, b5, e5⟩, i4, H⟩ := H
 try dsimp only at H
 have A1 := am i4
 clear i4
 by_cases c2 : e5 = 0
 ·
  rw [if_pos c2] at H
  obtain ⟨g3, g4⟩ := qt c2
  clear c2
  by_cases c3 : (b5.length : Int) = 1
  ·
   rw [if_pos c3] at H
   obtain ⟨g5, g6⟩ := qt c3
   clear c3
   by_cases c4 : 0 < (b5.length : Int)
   ·
    rw [if_pos c4] at H
    have j3 := decide_eq_true c4
    have j4 : decide (0 < b5.length) = true := decide_eq_true (by omega)
    clear c4
    by_cases c5 : ((rd_T51 b5 0).f0) = 1
    ·
     rw [if_pos c5] at H
     obtain ⟨g7, g8⟩ := qt c5
     clear c5
     replace H := Option.bind_eq_some_iff.mp H
     obtain ⟨e8, i5, H⟩ := H
     try dsimp only at H
     have A6 := am i5
     clear i5
     obtain rfl := Option.some.inj H
     go_enter Try.func16, Try.ntmps16
     go_wp2_with (first | ((with_reducible refine gD 5 ?_); (try (refine gate_guard (by rfl) ?_; dsimp only)); refine Kd.S_lit k49 _ 49 ?hg (N := 5) ?hd (xs := ([(⟨([] : List Int), 1, 0, 1⟩ : S49)] : List (S49))) (inner := [.slice none 0 0, .int .i64 1, .int .i64 0, .int .i64 1]) (ok := fun _ => True) (okp := fun _ => True) ?hr ?hp (fun _ hk => hk) trivial (Below.refl _ _) (Nat.le_refl _) (by simp) ?_; (case hd => rfl); (case hg => rfl); (case hr => first | (go_simp; done) | (go_simp; rfl)); (case hp => exact (Reps.c4 (show Kd.M k49 _ _ _ (⟨([] : List Int), 1, 0, 1⟩ : S49) [.slice none 0 0, .int .i64 1, .int .i64 0, .int .i64 1] from (k49_mkM _ _ _ (⟨([] : List Int), 1, 0, 1⟩ : S49) (Kd.R_nil _ _ _ _ _))) (Reps.none _ _))); intro e9 w7 f3 hb e7 d0; clear e7 d0; (first | rw [← c9.out] at f3 | (simp only [Int.reduceToNat] at f3; rw [← c9.out] at f3)); have a7 := am (Kd.S_lower f3 (below_size (pB HB.out))); replace HB := bS HB hb; clear hb f3; obtain ⟨j2, j9, k0⟩ := Kd.S_slice a7.out; subst k0) | ((with_reducible refine gC 10 ?_); refine gL 7 Try.func10 #[.string (⟨#[107]⟩ : ByteArray), .agg #[.string (⟨#[97]⟩ : ByteArray), .slice j2 y241.length j9]] ?_; (with_reducible refine (Ge.calls k (⟨#[107]⟩ : ByteArray) (⟨#[97]⟩ : ByteArray) (fun k_ => True) _ _ y241 b6 b7 b8 b9 b5 e5 _ ?side1 A1.out).mono ?_); (case side1 => exact Kd.S_V (a7.out)); rintro e k4 ⟨f1, f2, rfl, e0, e1, hb⟩; refine ⟨_, rfl, ?_⟩; replace a7 := am (Kd.S_below (pS a7.out) hb); have b4 := am (Kd.V_lower (Kd.V_mono (ok' := fun k_ => True) e0 (fun k_ c8 => trivial)) (below_size (pB HB.out))); have a6 := am (Kd.V_lower (Kd.V_mono (ok' := fun k_ => True) e1 (fun k_ c8 => trivial)) (below_size (pB HB.out))); replace HB := bS HB hb; (try clear hb); (try clear hb2); (try clear hk); (try clear hi); (try clear e0); (try clear e1)) | ((with_reducible refine gD 1 ?_); (try (refine gate_guard (by rfl) ?_; dsimp only)); refine bz 1 #[.string (⟨#[]⟩ : ByteArray), .string (⟨#[]⟩ : ByteArray), .slice none 0 0, .int .i64 0, .slice none 0 0] 27 HB ?_; clear HB; intro a0 hg k5 hb c6 d7 HB; replace a7 := am (Kd.S_below (pS a7.out) hb); replace b4 := vE b4 hg hb; replace a6 := vE a6 hg hb; clear hb hg; have f5 := y5 c6; obtain ⟨d3, d4, h3⟩ := Kd.V_slice b4.out; subst h3; obtain ⟨i6, d5, h4⟩ := Kd.V_slice a6.out; subst h4; have d1 : 0 ≤ (0 : Int) := (by omega); have d2 : 0 < (b5.length : Int) := od; obtain ⟨b3, e6, a1, a2, a3, a4, a5⟩ := at_T51 (Kd.V_reads' a6.out).2.2 0 d1 d2; cases e6; have f4 : (0 < b5.length) = True := eq_true (by omega); (try rw [show ((0 : Int)).toNat = 0 from rfl] at a1); (try rw [show 0 * 5 = 0 from rfl] at a1); (try rw [Addr.add_zero'] at a1); (try rw [show ((0 : Int)).toNat = 0 from rfl] at a2); (try rw [show 0 * 5 = 0 from rfl] at a2); (try rw [Addr.add_zero'] at a2); (try rw [show ((0 : Int)).toNat = 0 from rfl] at a3); (try rw [show 0 * 5 = 0 from rfl] at a3); (try rw [Addr.add_zero'] at a3); (try rw [show ((0 : Int)).toNat = 0 from rfl] at a4); (try rw [show 0 * 5 = 0 from rfl] at a4); (try rw [Addr.add_zero'] at a4); (try rw [show ((0 : Int)).toNat = 0 from rfl] at a5); (try rw [show 0 * 5 = 0 from rfl] at a5); (try rw [Addr.add_zero'] at a5); have a8 : b3.block ≠ a0 := vaw a6.out (fun _ c8 => c8.2) (hn := by omega); have a9 : b3.block ≠ a0 := vaw a6.out (fun _ c8 => c8.2) (hn := by omega); have b0 : b3.block ≠ a0 := vaw a6.out (fun _ c8 => c8.2) (hn := by omega); have b1 : b3.block ≠ a0 := vaw a6.out (fun _ c8 => c8.2) (hn := by omega); have b2 : b3.block ≠ a0 := vaw a6.out (fun _ c8 => c8.2) (hn := by omega); replace a1 := (cell_far (p := ⟨a0, 0, none⟩) (nb a8) (.string b6)).trans a1; replace a2 := (cell_far (p := ⟨a0, 0, none⟩) (nb a8) (.string b6)).trans a2; replace a3 := (cell_far (p := ⟨a0, 0, none⟩) (nb a8) (.string b6)).trans a3; replace a4 := (cell_far (p := ⟨a0, 0, none⟩) (nb a8) (.string b6)).trans a4; replace a5 := (cell_far (p := ⟨a0, 0, none⟩) (nb a8) (.string b6)).trans a5; replace a1 := (cell_far (p := ⟨a0, 1, none⟩) (nb a9) (.string b7)).trans a1; replace a2 := (cell_far (p := ⟨a0, 1, none⟩) (nb a9) (.string b7)).trans a2; replace a3 := (cell_far (p := ⟨a0, 1, none⟩) (nb a9) (.string b7)).trans a3; replace a4 := (cell_far (p := ⟨a0, 1, none⟩) (nb a9) (.string b7)).trans a4; replace a5 := (cell_far (p := ⟨a0, 1, none⟩) (nb a9) (.string b7)).trans a5; replace a1 := (cell_far (p := ⟨a0, 2, none⟩) (nb b0) (.slice d3 b8.length d4)).trans a1; replace a2 := (cell_far (p := ⟨a0, 2, none⟩) (nb b0) (.slice d3 b8.length d4)).trans a2; replace a3 := (cell_far (p := ⟨a0, 2, none⟩) (nb b0) (.slice d3 b8.length d4)).trans a3; replace a4 := (cell_far (p := ⟨a0, 2, none⟩) (nb b0) (.slice d3 b8.length d4)).trans a4; replace a5 := (cell_far (p := ⟨a0, 2, none⟩) (nb b0) (.slice d3 b8.length d4)).trans a5; replace a1 := (cell_far (p := ⟨a0, 3, none⟩) (nb b1) (.int .i64 b9)).trans a1; replace a2 := (cell_far (p := ⟨a0, 3, none⟩) (nb b1) (.int .i64 b9)).trans a2; replace a3 := (cell_far (p := ⟨a0, 3, none⟩) (nb b1) (.int .i64 b9)).trans a3; replace a4 := (cell_far (p := ⟨a0, 3, none⟩) (nb b1) (.int .i64 b9)).trans a4; replace a5 := (cell_far (p := ⟨a0, 3, none⟩) (nb b1) (.int .i64 b9)).trans a5; replace a1 := (cell_far (p := ⟨a0, 4, none⟩) (nb b2) (.slice (some b3) b5.length d5)).trans a1; replace a2 := (cell_far (p := ⟨a0, 4, none⟩) (nb b2) (.slice (some b3) b5.length d5)).trans a2; replace a3 := (cell_far (p := ⟨a0, 4, none⟩) (nb b2) (.slice (some b3) b5.length d5)).trans a3; replace a4 := (cell_far (p := ⟨a0, 4, none⟩) (nb b2) (.slice (some b3) b5.length d5)).trans a4; replace a5 := (cell_far (p := ⟨a0, 4, none⟩) (nb b2) (.slice (some b3) b5.length d5)).trans a5; clear a8 a9 b0 b1 b2; replace d1 := eq_true d1; replace d2 := eq_true d2) | (go_at_call 17; (with_reducible refine (Gg.calls k b6 b7 _ _ b8 b9 _ _ b5 e8 _ ?side1 ?side2 ?side3 ?side4 A6.out).mono ?_); (case side1 => exact (Kd.V_reads' (pV b4.out)).2.2); (case side2 => exact (Kd.V_reads' b4.out).2.1); (case side3 => exact (Kd.V_reads' (pV a6.out)).2.2); (case side4 => exact (Kd.V_reads' a6.out).2.1); rintro e k6 ⟨rfl, hb⟩; replace a7 := am (Kd.S_below ((Kd.S_mono (pS (Kd.S_types a7.out c6.out (by decide))) (fun _ h_ => h_.1))) hb); replace b4 := vB b4 hb; replace a6 := vB a6 hb; replace c6 := am (blk_below (g := a0) (o := .cells #[.string b6, .string b7, .slice d3 b8.length d4, .int .i64 b9, .slice (some b3) b5.length d5] 27 (0, 0)) (pP c6.out) hb); replace HB := bS HB hb; (try clear hb); (try clear hb2); (try clear hk); (try clear hi)))
     go_ret
     exact ⟨er, pB HB.out⟩
    rw [if_neg c5] at H
    obtain ⟨g7, g8⟩ := qf c5
    clear c5
    obtain rfl := Option.some.inj H
    go_enter Try.func16, Try.ntmps16
    go_wp2_with (first | ((with_reducible refine gD 5 ?_); (try (refine gate_guard (by rfl) ?_; dsimp only)); refine Kd.S_lit k49 _ 49 ?hg (N := 5) ?hd (xs := ([(⟨([] : List Int), 1, 0, 1⟩ : S49)] : List (S49))) (inner := [.slice none 0 0, .int .i64 1, .int .i64 0, .int .i64 1]) (ok := fun _ => True) (okp := fun _ => True) ?hr ?hp (fun _ hk => hk) trivial (Below.refl _ _) (Nat.le_refl _) (by simp) ?_; (case hd => rfl); (case hg => rfl); (case hr => first | (go_simp; done) | (go_simp; rfl)); (case hp => exact (Reps.c4 (show Kd.M k49 _ _ _ (⟨([] : List Int), 1, 0, 1⟩ : S49) [.slice none 0 0, .int .i64 1, .int .i64 0, .int .i64 1] from (k49_mkM _ _ _ (⟨([] : List Int), 1, 0, 1⟩ : S49) (Kd.R_nil _ _ _ _ _))) (Reps.none _ _))); intro e9 k7 e2 hb e7 d0; clear e7 d0; (first | rw [← c9.out] at e2 | (simp only [Int.reduceToNat] at e2; rw [← c9.out] at e2)); have a7 := am (Kd.S_lower e2 (below_size (pB HB.out))); replace HB := bS HB hb; clear hb e2; obtain ⟨f9, g9, h5⟩ := Kd.S_slice a7.out; subst h5) | ((with_reducible refine gC 10 ?_); refine gL 7 Try.func10 #[.string (⟨#[107]⟩ : ByteArray), .agg #[.string (⟨#[97]⟩ : ByteArray), .slice f9 y241.length g9]] ?_; (with_reducible refine (Ge.calls k (⟨#[107]⟩ : ByteArray) (⟨#[97]⟩ : ByteArray) (fun k_ => True) _ _ y241 b6 b7 b8 b9 b5 e5 _ ?side1 A1.out).mono ?_); (case side1 => exact Kd.S_V (a7.out)); rintro e k8 ⟨f1, f2, rfl, e0, e1, hb⟩; refine ⟨_, rfl, ?_⟩; replace a7 := am (Kd.S_below (pS a7.out) hb); have b4 := am (Kd.V_lower (Kd.V_mono (ok' := fun k_ => True) e0 (fun k_ c8 => trivial)) (below_size (pB HB.out))); have a6 := am (Kd.V_lower (Kd.V_mono (ok' := fun k_ => True) e1 (fun k_ c8 => trivial)) (below_size (pB HB.out))); replace HB := bS HB hb; (try clear hb); (try clear hb2); (try clear hk); (try clear hi); (try clear e0); (try clear e1)) | ((with_reducible refine gD 1 ?_); (try (refine gate_guard (by rfl) ?_; dsimp only)); refine bz 1 #[.string (⟨#[]⟩ : ByteArray), .string (⟨#[]⟩ : ByteArray), .slice none 0 0, .int .i64 0, .slice none 0 0] 27 HB ?_; clear HB; intro a0 hg k9 hb c6 d7 HB; replace a7 := am (Kd.S_below (pS a7.out) hb); replace b4 := vE b4 hg hb; replace a6 := vE a6 hg hb; clear hb hg; have f6 := y5 c6; obtain ⟨d6, d8, h6⟩ := Kd.V_slice b4.out; subst h6; obtain ⟨i7, d9, h7⟩ := Kd.V_slice a6.out; subst h7; have d1 : 0 ≤ (0 : Int) := (by omega); have d2 : 0 < (b5.length : Int) := od; obtain ⟨b3, e6, a1, a2, a3, a4, a5⟩ := at_T51 (Kd.V_reads' a6.out).2.2 0 d1 d2; cases e6; have f4 : (0 < b5.length) = True := eq_true (by omega); (try rw [show ((0 : Int)).toNat = 0 from rfl] at a1); (try rw [show 0 * 5 = 0 from rfl] at a1); (try rw [Addr.add_zero'] at a1); (try rw [show ((0 : Int)).toNat = 0 from rfl] at a2); (try rw [show 0 * 5 = 0 from rfl] at a2); (try rw [Addr.add_zero'] at a2); (try rw [show ((0 : Int)).toNat = 0 from rfl] at a3); (try rw [show 0 * 5 = 0 from rfl] at a3); (try rw [Addr.add_zero'] at a3); (try rw [show ((0 : Int)).toNat = 0 from rfl] at a4); (try rw [show 0 * 5 = 0 from rfl] at a4); (try rw [Addr.add_zero'] at a4); (try rw [show ((0 : Int)).toNat = 0 from rfl] at a5); (try rw [show 0 * 5 = 0 from rfl] at a5); (try rw [Addr.add_zero'] at a5); have a8 : b3.block ≠ a0 := vaw a6.out (fun _ c8 => c8.2) (hn := by omega); have a9 : b3.block ≠ a0 := vaw a6.out (fun _ c8 => c8.2) (hn := by omega); have b0 : b3.block ≠ a0 := vaw a6.out (fun _ c8 => c8.2) (hn := by omega); have b1 : b3.block ≠ a0 := vaw a6.out (fun _ c8 => c8.2) (hn := by omega); have b2 : b3.block ≠ a0 := vaw a6.out (fun _ c8 => c8.2) (hn := by omega); replace a1 := (cell_far (p := ⟨a0, 0, none⟩) (nb a8) (.string b6)).trans a1; replace a2 := (cell_far (p := ⟨a0, 0, none⟩) (nb a8) (.string b6)).trans a2; replace a3 := (cell_far (p := ⟨a0, 0, none⟩) (nb a8) (.string b6)).trans a3; replace a4 := (cell_far (p := ⟨a0, 0, none⟩) (nb a8) (.string b6)).trans a4; replace a5 := (cell_far (p := ⟨a0, 0, none⟩) (nb a8) (.string b6)).trans a5; replace a1 := (cell_far (p := ⟨a0, 1, none⟩) (nb a9) (.string b7)).trans a1; replace a2 := (cell_far (p := ⟨a0, 1, none⟩) (nb a9) (.string b7)).trans a2; replace a3 := (cell_far (p := ⟨a0, 1, none⟩) (nb a9) (.string b7)).trans a3; replace a4 := (cell_far (p := ⟨a0, 1, none⟩) (nb a9) (.string b7)).trans a4; replace a5 := (cell_far (p := ⟨a0, 1, none⟩) (nb a9) (.string b7)).trans a5; replace a1 := (cell_far (p := ⟨a0, 2, none⟩) (nb b0) (.slice d6 b8.length d8)).trans a1; replace a2 := (cell_far (p := ⟨a0, 2, none⟩) (nb b0) (.slice d6 b8.length d8)).trans a2; replace a3 := (cell_far (p := ⟨a0, 2, none⟩) (nb b0) (.slice d6 b8.length d8)).trans a3; replace a4 := (cell_far (p := ⟨a0, 2, none⟩) (nb b0) (.slice d6 b8.length d8)).trans a4; replace a5 := (cell_far (p := ⟨a0, 2, none⟩) (nb b0) (.slice d6 b8.length d8)).trans a5; replace a1 := (cell_far (p := ⟨a0, 3, none⟩) (nb b1) (.int .i64 b9)).trans a1; replace a2 := (cell_far (p := ⟨a0, 3, none⟩) (nb b1) (.int .i64 b9)).trans a2; replace a3 := (cell_far (p := ⟨a0, 3, none⟩) (nb b1) (.int .i64 b9)).trans a3; replace a4 := (cell_far (p := ⟨a0, 3, none⟩) (nb b1) (.int .i64 b9)).trans a4; replace a5 := (cell_far (p := ⟨a0, 3, none⟩) (nb b1) (.int .i64 b9)).trans a5; replace a1 := (cell_far (p := ⟨a0, 4, none⟩) (nb b2) (.slice (some b3) b5.length d9)).trans a1; replace a2 := (cell_far (p := ⟨a0, 4, none⟩) (nb b2) (.slice (some b3) b5.length d9)).trans a2; replace a3 := (cell_far (p := ⟨a0, 4, none⟩) (nb b2) (.slice (some b3) b5.length d9)).trans a3; replace a4 := (cell_far (p := ⟨a0, 4, none⟩) (nb b2) (.slice (some b3) b5.length d9)).trans a4; replace a5 := (cell_far (p := ⟨a0, 4, none⟩) (nb b2) (.slice (some b3) b5.length d9)).trans a5; clear a8 a9 b0 b1 b2; replace d1 := eq_true d1; replace d2 := eq_true d2))
    go_ret
    exact ⟨er, pB HB.out⟩
   rw [if_neg c4] at H
   exact absurd H (by simp)
  rw [if_neg c3] at H
  obtain ⟨g5, g6⟩ := qf c3
  obtain rfl := Option.some.inj H
  go_enter Try.func16, Try.ntmps16
  go_wp2_with (first | ((with_reducible refine gD 5 ?_); (try (refine gate_guard (by rfl) ?_; dsimp only)); refine Kd.S_lit k49 _ 49 ?hg (N := 5) ?hd (xs := ([(⟨([] : List Int), 1, 0, 1⟩ : S49)] : List (S49))) (inner := [.slice none 0 0, .int .i64 1, .int .i64 0, .int .i64 1]) (ok := fun _ => True) (okp := fun _ => True) ?hr ?hp (fun _ hk => hk) trivial (Below.refl _ _) (Nat.le_refl _) (by simp) ?_; (case hd => rfl); (case hg => rfl); (case hr => first | (go_simp; done) | (go_simp; rfl)); (case hp => exact (Reps.c4 (show Kd.M k49 _ _ _ (⟨([] : List Int), 1, 0, 1⟩ : S49) [.slice none 0 0, .int .i64 1, .int .i64 0, .int .i64 1] from (k49_mkM _ _ _ (⟨([] : List Int), 1, 0, 1⟩ : S49) (Kd.R_nil _ _ _ _ _))) (Reps.none _ _))); intro e9 l0 e3 hb e7 d0; clear e7 d0; (first | rw [← c9.out] at e3 | (simp only [Int.reduceToNat] at e3; rw [← c9.out] at e3)); have a7 := am (Kd.S_lower e3 (below_size (pB HB.out))); replace HB := bS HB hb; clear hb e3; obtain ⟨g0, h0, h8⟩ := Kd.S_slice a7.out; subst h8) | ((with_reducible refine gC 10 ?_); refine gL 7 Try.func10 #[.string (⟨#[107]⟩ : ByteArray), .agg #[.string (⟨#[97]⟩ : ByteArray), .slice g0 y241.length h0]] ?_; (with_reducible refine (Ge.calls k (⟨#[107]⟩ : ByteArray) (⟨#[97]⟩ : ByteArray) (fun k_ => True) _ _ y241 b6 b7 b8 b9 b5 e5 _ ?side1 A1.out).mono ?_); (case side1 => exact Kd.S_V (a7.out)); rintro e l1 ⟨f1, f2, rfl, e0, e1, hb⟩; refine ⟨_, rfl, ?_⟩; replace a7 := am (Kd.S_below (pS a7.out) hb); have b4 := am (Kd.V_lower (Kd.V_mono (ok' := fun k_ => True) e0 (fun k_ c8 => trivial)) (below_size (pB HB.out))); have a6 := am (Kd.V_lower (Kd.V_mono (ok' := fun k_ => True) e1 (fun k_ c8 => trivial)) (below_size (pB HB.out))); replace HB := bS HB hb; (try clear hb); (try clear hb2); (try clear hk); (try clear hi); (try clear e0); (try clear e1)) | ((with_reducible refine gD 1 ?_); (try (refine gate_guard (by rfl) ?_; dsimp only)); refine bz 1 #[.string (⟨#[]⟩ : ByteArray), .string (⟨#[]⟩ : ByteArray), .slice none 0 0, .int .i64 0, .slice none 0 0] 27 HB ?_; clear HB; intro a0 hg l2 hb c6 d7 HB; replace a7 := am (Kd.S_below (pS a7.out) hb); replace b4 := vE b4 hg hb; replace a6 := vE a6 hg hb; clear hb hg; have f7 := y5 c6; obtain ⟨i8, j5, h9⟩ := Kd.V_slice b4.out; subst h9; obtain ⟨i9, j6, i0⟩ := Kd.V_slice a6.out; subst i0))
  go_ret
  exact ⟨er, pB HB.out⟩
 rw [if_neg c2] at H
 obtain ⟨g3, g4⟩ := qf c2
 obtain rfl := Option.some.inj H
 go_enter Try.func16, Try.ntmps16
 go_wp2_with (first | ((with_reducible refine gD 5 ?_); (try (refine gate_guard (by rfl) ?_; dsimp only)); refine Kd.S_lit k49 _ 49 ?hg (N := 5) ?hd (xs := ([(⟨([] : List Int), 1, 0, 1⟩ : S49)] : List (S49))) (inner := [.slice none 0 0, .int .i64 1, .int .i64 0, .int .i64 1]) (ok := fun _ => True) (okp := fun _ => True) ?hr ?hp (fun _ hk => hk) trivial (Below.refl _ _) (Nat.le_refl _) (by simp) ?_; (case hd => rfl); (case hg => rfl); (case hr => first | (go_simp; done) | (go_simp; rfl)); (case hp => exact (Reps.c4 (show Kd.M k49 _ _ _ (⟨([] : List Int), 1, 0, 1⟩ : S49) [.slice none 0 0, .int .i64 1, .int .i64 0, .int .i64 1] from (k49_mkM _ _ _ (⟨([] : List Int), 1, 0, 1⟩ : S49) (Kd.R_nil _ _ _ _ _))) (Reps.none _ _))); intro e9 l3 e4 hb e7 d0; clear e7 d0; (first | rw [← c9.out] at e4 | (simp only [Int.reduceToNat] at e4; rw [← c9.out] at e4)); have a7 := am (Kd.S_lower e4 (below_size (pB HB.out))); replace HB := bS HB hb; clear hb e4; obtain ⟨g1, h2, i1⟩ := Kd.S_slice a7.out; subst i1) | ((with_reducible refine gC 10 ?_); refine gL 7 Try.func10 #[.string (⟨#[107]⟩ : ByteArray), .agg #[.string (⟨#[97]⟩ : ByteArray), .slice g1 y241.length h2]] ?_; (with_reducible refine (Ge.calls k (⟨#[107]⟩ : ByteArray) (⟨#[97]⟩ : ByteArray) (fun k_ => True) _ _ y241 b6 b7 b8 b9 b5 e5 _ ?side1 A1.out).mono ?_); (case side1 => exact Kd.S_V (a7.out)); rintro e l4 ⟨f1, f2, rfl, e0, e1, hb⟩; refine ⟨_, rfl, ?_⟩; replace a7 := am (Kd.S_below (pS a7.out) hb); have b4 := am (Kd.V_lower (Kd.V_mono (ok' := fun k_ => True) e0 (fun k_ c8 => trivial)) (below_size (pB HB.out))); have a6 := am (Kd.V_lower (Kd.V_mono (ok' := fun k_ => True) e1 (fun k_ c8 => trivial)) (below_size (pB HB.out))); replace HB := bS HB hb; (try clear hb); (try clear hb2); (try clear hk); (try clear hi); (try clear e0); (try clear e1)) | ((with_reducible refine gD 1 ?_); (try (refine gate_guard (by rfl) ?_; dsimp only)); refine bz 1 #[.string (⟨#[]⟩ : ByteArray), .string (⟨#[]⟩ : ByteArray), .slice none 0 0, .int .i64 0, .slice none 0 0] 27 HB ?_; clear HB; intro a0 hg l5 hb c6 d7 HB; replace a7 := am (Kd.S_below (pS a7.out) hb); replace b4 := vE b4 hg hb; replace a6 := vE a6 hg hb; clear hb hg; have f8 := y5 c6; obtain ⟨j0, j7, i2⟩ := Kd.V_slice b4.out; subst i2; obtain ⟨j1, j8, i3⟩ := Kd.V_slice a6.out; subst i3))
 go_ret
 exact ⟨er, pB HB.out⟩
end Go.Proofs.Ytabmkighhmchmaa.X
