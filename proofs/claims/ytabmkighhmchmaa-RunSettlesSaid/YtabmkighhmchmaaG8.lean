/- Words and walks for the law RunSettles, joined and made small by a program of mine. -/
import Derived.Test.YtabmkighhmchmaaG2
import Derived.Test.YtabmkighhmchmaaG3
import Derived.Test.YtabmkighhmchmaaG7
namespace Go.Proofs.Ytabmkighhmchmaa.X
open Go.RowKit Go.YW.PrintWords Go.YW.PrintLast Go.YW.PrintMore Go.YW.Sq
attribute [local go_sem] q0y q0w q1g q1f q0t q0s q0x q0v
set_option linter.unusedVariables false
set_option linter.unusedSimpArgs false
attribute [local go_sem high] eqA51
def Fm.l0 : Nat → List (S51) → List (S51) → Int → Int → Option (Bool)
 | 0, _, _, _, _ => none
 | k + 1, x0, x1, a1, a0 => if a0 < a1 then (if 0 ≤ a0 then (if a0 < (x0.length : Int) then (if a0 < (x1.length : Int) then (if (!(((q0c x0 a0).f0) == ((q0c x1 a0).f0)) || (!(((q0c x0 a0).f1) == ((q0c x1 a0).f1)) || (!(((q0c x0 a0).f2) == ((q0c x1 a0).f2)) || (!(((q0c x0 a0).f3) == ((q0c x1 a0).f3)) || (!((((q0c x0 a0).f4).toList) == (((q0c x1 a0).f4).toList))))))) = true then (some false) else (Fm.l0 k x0 x1 a1 (wrap64 (a0 + 1)))) else (none)) else (none)) else (none)) else (some true)
def Fm.f (k : Nat) (l0 : List (S51)) (l1 : List (S51)) : Option (Bool) := if (l0.length : Int) = (l1.length : Int) then (Fm.l0 k l0 l1 (l0.length : Int) 0) else (some false)
set_option maxHeartbeats 8000000 in
set_option maxRecDepth 100000 in
theorem Fm.calls (k : Nat) (A0 : Option Addr) (c0 : Nat) (l0 : List (S51)) (A1 : Option Addr) (c1 : Nat) (l1 : List (S51)) (r : Bool) (w : World) (d8 : Kd.C k51 w A0 l0.length l0) (d6 : l0.length ≤ c0) (d9 : Kd.C k51 w A1 l1.length l1) (d7 : l1.length ≤ c1) (h : Fm.f k l0 l1 = some r) :
  Calls Try.prog 34 #[.slice A0 l0.length c0, .slice A1 l1.length c1] w fun e w' => e = .returned (.bool r) ∧ q1k w w' := by
 have e3 := Try.underlying51
 have d4 := am d8
 have e5 := am d6
 clear d8 d6
 have d5 := am d9
 have e6 := am d7
 clear d9 d7
 unfold Fm.f at h
 have H := h
 clear h
 by_cases c3 : (l0.length : Int) = (l1.length : Int)
 ·
  rw [if_pos c3] at H
  obtain ⟨b9, c9⟩ := qt c3
  have d0 : (l0.length == l1.length) = true := by first | simpa using c3 | (simp at c3 ⊢; omega)
  clear c3
  have H' := am H
  clear H
  go_enter Try.func34, Try.ntmps34
  go_wp2
  repeat (go_quiet (fail); try go_wp2)
  go_loopg [13] k (fun kq e4 w' => ∃ (a0 : Int), e4 = .int .i64 a0 ∧ q0f (Fm.l0 kq l0 l1 (l0.length : Int) a0 = some r) ∧ q0f (kq ≤ k) ∧ q1k w w')
  case atStart => exact ⟨(0), el, H', ⟨Nat.le_refl _⟩, by repeat (first | exact q1k.refl _ | apply q1k.step)⟩
  case round =>
   clear H'
   try clear c1
   try clear c3
   try clear b9
   try clear c9
   try clear d0
   obtain ⟨a0, rfl, HA, d3, ⟨m1, rfl⟩⟩ := hrel
   cases gk with
   | zero => exact absurd HA.out (by simp [Fm.l0])
   | succ k1 =>
    have H := HA.out
    clear HA
    simp only [Fm.l0] at H
    by_cases c4 : a0 < (l0.length : Int)
    ·
     rw [if_pos c4] at H
     have d1 := decide_eq_true c4
     clear c4
     by_cases c5 : 0 ≤ a0
     ·
      rw [if_pos c5] at H
      have e0 := decide_eq_true c5
      clear c5
      by_cases c6 : a0 < (l0.length : Int)
      ·
       rw [if_pos c6] at H
       have e1 := decide_eq_true c6
       clear c6
       by_cases c7 : a0 < (l1.length : Int)
       ·
        rw [if_pos c7] at H
        have e2 := decide_eq_true c7
        clear c7
        by_cases c8 : (!(((q0c l0 a0).f0) == ((q0c l1 a0).f0)) || (!(((q0c l0 a0).f1) == ((q0c l1 a0).f1)) || (!(((q0c l0 a0).f2) == ((q0c l1 a0).f2)) || (!(((q0c l0 a0).f3) == ((q0c l1 a0).f3)) || (!((((q0c l0 a0).f4).toList) == (((q0c l1 a0).f4).toList))))))) = true
        ·
         rw [if_pos c8] at H
         have d2 : (!(((q0c l0 a0).f0) == ((q0c l1 a0).f0)) || (!(((q0c l0 a0).f1) == ((q0c l1 a0).f1)) || (!(((q0c l0 a0).f2) == ((q0c l1 a0).f2)) || (!(((q0c l0 a0).f3) == ((q0c l1 a0).f3)) || (!((((q0c l0 a0).f4).toList) == (((q0c l1 a0).f4).toList))))))) = true := c8
         clear c8
         obtain rfl := Option.some.inj H
         have a1 : 0 ≤ (a0 : Int) := od
         have a3 : a0 < (l0.length : Int) := od
         obtain ⟨b7, b5, a5, a6, a7, a8, a9⟩ := q1u d4.out a0 a1 a3
         cases b5
         replace a1 := eq_true a1
         replace a3 := eq_true a3
         have a2 : 0 ≤ (a0 : Int) := od
         have a4 : a0 < (l1.length : Int) := od
         obtain ⟨b8, b6, b0, b1, b2, b3, b4⟩ := q1u d5.out a0 a2 a4
         cases b6
         replace a2 := eq_true a2
         replace a4 := eq_true a4
         go_wp2
         repeat (go_quiet (fail); try go_wp2)
         go_ret
         exact ⟨by first | rfl | (simp; done) | (simp [*]; done), by repeat (first | exact q1k.refl _ | apply q1k.step)⟩
        rw [if_neg c8] at H
        have d2 : (!(((q0c l0 a0).f0) == ((q0c l1 a0).f0)) || (!(((q0c l0 a0).f1) == ((q0c l1 a0).f1)) || (!(((q0c l0 a0).f2) == ((q0c l1 a0).f2)) || (!(((q0c l0 a0).f3) == ((q0c l1 a0).f3)) || (!((((q0c l0 a0).f4).toList) == (((q0c l1 a0).f4).toList))))))) = false := by simpa using c8
        clear c8
        have H' := am H
        clear H
        have a1 : 0 ≤ (a0 : Int) := od
        have a3 : a0 < (l0.length : Int) := od
        obtain ⟨b7, b5, a5, a6, a7, a8, a9⟩ := q1u d4.out a0 a1 a3
        cases b5
        replace a1 := eq_true a1
        replace a3 := eq_true a3
        have a2 : 0 ≤ (a0 : Int) := od
        have a4 : a0 < (l1.length : Int) := od
        obtain ⟨b8, b6, b0, b1, b2, b3, b4⟩ := q1u d5.out a0 a2 a4
        cases b6
        replace a2 := eq_true a2
        replace a4 := eq_true a4
        go_wp2
        repeat (go_quiet (fail); try go_wp2)
        go_roundg k1
        case measure => have := d3.out; omega
        case rel => exact ⟨(wrap64 (a0 + 1)), el, H', ⟨by have := d3.out; omega⟩, by repeat (first | exact q1k.refl _ | apply q1k.step)⟩
       rw [if_neg c7] at H
       exact absurd H (by simp)
      rw [if_neg c6] at H
      exact absurd H (by simp)
     rw [if_neg c5] at H
     exact absurd H (by simp)
    rw [if_neg c4] at H
    have d1 := decide_eq_false c4
    clear c4
    obtain rfl := Option.some.inj H
    go_wp2
    repeat (go_quiet (fail); try go_wp2)
    go_ret
    exact ⟨by first | rfl | (simp; done) | (simp [*]; done), by repeat (first | exact q1k.refl _ | apply q1k.step)⟩
 rw [if_neg c3] at H
 obtain ⟨b9, c9⟩ := qf c3
 have d0 : (l0.length == l1.length) = false := by first | simpa using c3 | (simp at c3 ⊢; omega)
 obtain rfl := Option.some.inj H
 go_enter Try.func34, Try.ntmps34
 go_wp2
 repeat (go_quiet (fail); try go_wp2)
 go_ret
 exact ⟨by first | rfl | (simp; done) | (simp [*]; done), by repeat (first | exact q1k.refl _ | apply q1k.step)⟩
end Go.Proofs.Ytabmkighhmchmaa.X
namespace Go.Proofs.Ytabmkighhmchmaa.X
open Go.RowKit Go.YW.PrintWords Go.YW.PrintLast Go.YW.PrintMore Go.YW.Sq
attribute [local go_sem] q0y q0w q1g q1f q0t q0s q0x q0v
set_option linter.unusedVariables false
set_option linter.unusedSimpArgs false
def Fl.f (k : Nat) (a0 : ByteArray) (a1 : ByteArray) (a6 : List (S49)) (a2 : Int) (a7 : List (S51)) (a3 : ByteArray) (a4 : ByteArray) (a8 : List (S49)) (a5 : Int) (a9 : List (S51)) : Option (Bool) := if a0.toList = a3.toList then (if a2 = a5 then ((Fj.f k a1 a6 a4 a8).bind fun b0 => (if b0 = true then ((Fm.f k a7 a9).bind fun b1 => (some b1)) else (some false))) else (some false)) else (some false)
set_option maxHeartbeats 8000000 in
set_option maxRecDepth 100000 in
theorem Fl.calls (k : Nat) (a9 : ByteArray) (a7 : ByteArray) (b3 : Option Addr) (b7 : Nat) (a3 : List (S49)) (b0 : Int) (b4 : Option Addr) (b8 : Nat) (a5 : List (S51)) (b1 : ByteArray) (a8 : ByteArray) (b5 : Option Addr) (b9 : Nat) (a4 : List (S49)) (b2 : Int) (b6 : Option Addr) (c7 : Nat) (a6 : List (S51)) (r : Bool) (w : World) (e0 : Kd.C k49 w b3 a3.length a3) (d6 : a3.length ≤ b7) (e1 : Kd.C k51 w b4 a5.length a5) (d7 : a5.length ≤ b8) (e2 : Kd.C k49 w b5 a4.length a4) (d8 : a4.length ≤ b9) (e3 : Kd.C k51 w b6 a6.length a6) (d9 : a6.length ≤ c7) (h : Fl.f k a9 a7 a3 b0 a5 b1 a8 a4 b2 a6 = some r) :
  Calls Try.prog 12 #[.agg #[.string a9, .string a7, .slice b3 a3.length b7, .int .i64 b0, .slice b4 a5.length b8], .agg #[.string b1, .string a8, .slice b5 a4.length b9, .int .i64 b2, .slice b6 a6.length c7]] w fun e w' => e = .returned (.bool r) ∧ Below w.heap.size w w' := by
 have h2 := Try.underlying27
 have h0 := Try.underlying24
 have d4 := am e0
 have d2 := am d6
 clear e0 d6
 have e6 := am e1
 have e4 := am d7
 clear e1 d7
 have d5 := am e2
 have d3 := am d8
 clear e2 d8
 have e7 := am e3
 have e5 := am d9
 clear e3 d9
 have HB := am (Below.refl w.heap.size w)
 unfold Fl.f at h
 have H := h
 clear h
 by_cases c3 : a9.toList = b1.toList
 ·
  rw [if_pos c3] at H
  have f8 := beq_iff_eq.mpr c3
  have f9 := bne_eq_false_iff_eq.mpr c3
  clear c3
  by_cases c4 : b0 = b2
  ·
   rw [if_pos c4] at H
   obtain ⟨g0, g1⟩ := qt c4
   clear c4
   replace H := Option.bind_eq_some_iff.mp H
   obtain ⟨g2, g4, H⟩ := H
   try dsimp only at H
   have A5 := am g4
   clear g4
   by_cases c6 : g2 = true
   ·
    subst c6
    rw [if_pos rfl] at H
    try dsimp only at H
    replace H := Option.bind_eq_some_iff.mp H
    obtain ⟨g3, g5, H⟩ := H
    try dsimp only at H
    have A7 := am g5
    clear g5
    obtain rfl := Option.some.inj H
    go_enter Try.func12, Try.ntmps12
    go_wp2_with (first | ((with_reducible refine gD 2 ?_); refine bz 2 #[.string a9, .string a7, .slice b3 a3.length b7, .int .i64 b0, .slice b4 a5.length b8] 27 HB ?_; clear HB; intro d0 hg w8 hb a0 c8 HB; clear hb hg) | ((with_reducible refine gD 3 ?_); refine bz 3 #[.string b1, .string a8, .slice b5 a4.length b9, .int .i64 b2, .slice b6 a6.length c7] 27 HB ?_; clear HB; intro d1 hg w9 hb a2 c9 HB; have a1 := nL hg a0; replace a0 := kB a0 hb; clear hb hg; have g6 := nn a1; have e8 := y5 a0; have e9 := y5 a2) | (go_at_call 33; (with_reducible refine (Fj.calls k a7 _ _ a3 a8 _ _ a4 true _ ?side1 ?side2 ?side3 ?side4 A5.out).mono ?_); (case side1 => exact (Kd.C_below d4.out (pB HB.out))); (case side2 => exact d2.out); (case side3 => exact (Kd.C_below d5.out (pB HB.out))); (case side4 => exact d3.out); rintro e h3 ⟨rfl, hb⟩; replace a0 := kB a0 hb; replace a2 := kB a2 hb; replace HB := bS HB hb; (try clear hb); have f0 := y5 a0; have f1 := y5 a2) | (go_at_call 34; (with_reducible refine (Fm.calls k _ _ a5 _ _ a6 g3 _ ?side1 ?side2 ?side3 ?side4 A7.out).mono ?_); (case side1 => exact (Kd.C_below e6.out (pB HB.out))); (case side2 => exact e4.out); (case side3 => exact (Kd.C_below e7.out (pB HB.out))); (case side4 => exact e5.out); rintro e w' ⟨rfl, ⟨nd, rfl⟩⟩))
    go_ret
    exact ⟨er, pB HB.out⟩
   replace c6 := Bool.eq_false_iff.mpr c6
   subst c6
   rw [if_neg (show ¬ (false = true) by decide)] at H
   try dsimp only at H
   obtain rfl := Option.some.inj H
   go_enter Try.func12, Try.ntmps12
   go_wp2_with (first | ((with_reducible refine gD 2 ?_); refine bz 2 #[.string a9, .string a7, .slice b3 a3.length b7, .int .i64 b0, .slice b4 a5.length b8] 27 HB ?_; clear HB; intro d0 hg h4 hb a0 c8 HB; clear hb hg) | ((with_reducible refine gD 3 ?_); refine bz 3 #[.string b1, .string a8, .slice b5 a4.length b9, .int .i64 b2, .slice b6 a6.length c7] 27 HB ?_; clear HB; intro d1 hg h5 hb a2 c9 HB; have a1 := nL hg a0; replace a0 := kB a0 hb; clear hb hg; have g7 := nn a1; have f2 := y5 a0; have f3 := y5 a2) | (go_at_call 33; (with_reducible refine (Fj.calls k a7 _ _ a3 a8 _ _ a4 false _ ?side1 ?side2 ?side3 ?side4 A5.out).mono ?_); (case side1 => exact (Kd.C_below d4.out (pB HB.out))); (case side2 => exact d2.out); (case side3 => exact (Kd.C_below d5.out (pB HB.out))); (case side4 => exact d3.out); rintro e h6 ⟨rfl, hb⟩; replace a0 := kB a0 hb; replace a2 := kB a2 hb; replace HB := bS HB hb; (try clear hb)))
   go_ret
   exact ⟨er, pB HB.out⟩
  rw [if_neg c4] at H
  obtain ⟨g0, g1⟩ := qf c4
  obtain rfl := Option.some.inj H
  go_enter Try.func12, Try.ntmps12
  go_wp2_with (first | ((with_reducible refine gD 2 ?_); refine bz 2 #[.string a9, .string a7, .slice b3 a3.length b7, .int .i64 b0, .slice b4 a5.length b8] 27 HB ?_; clear HB; intro d0 hg h7 hb a0 c8 HB; clear hb hg) | ((with_reducible refine gD 3 ?_); refine bz 3 #[.string b1, .string a8, .slice b5 a4.length b9, .int .i64 b2, .slice b6 a6.length c7] 27 HB ?_; clear HB; intro d1 hg h8 hb a2 c9 HB; have a1 := nL hg a0; replace a0 := kB a0 hb; clear hb hg; have g8 := nn a1; have f4 := y5 a0; have f5 := y5 a2))
  go_ret
  exact ⟨er, pB HB.out⟩
 rw [if_neg c3] at H
 have f8 := beq_eq_false_iff_ne.mpr c3
 have f9 := bne_iff_ne.mpr c3
 obtain rfl := Option.some.inj H
 go_enter Try.func12, Try.ntmps12
 go_wp2_with (first | ((with_reducible refine gD 2 ?_); refine bz 2 #[.string a9, .string a7, .slice b3 a3.length b7, .int .i64 b0, .slice b4 a5.length b8] 27 HB ?_; clear HB; intro d0 hg h9 hb a0 c8 HB; clear hb hg) | ((with_reducible refine gD 3 ?_); refine bz 3 #[.string b1, .string a8, .slice b5 a4.length b9, .int .i64 b2, .slice b6 a6.length c7] 27 HB ?_; clear HB; intro d1 hg i0 hb a2 c9 HB; have a1 := nL hg a0; replace a0 := kB a0 hb; clear hb hg; have g9 := nn a1; have f6 := y5 a0; have f7 := y5 a2))
 go_ret
 exact ⟨er, pB HB.out⟩
mutual
def Fe.j0 : Nat → Int → Bool → ByteArray → List (S49) → Option (Bool)
 | 0, _, _, _, _ => none
 | k + 1, x3, a2, a1, a0 => if a2 = true then (some false) else (Fe.l0 k x3 a0 (a0.length : Int) 0)
def Fe.l0 : Nat → Int → List (S49) → Int → Int → Option (Bool)
 | 0, _, _, _, _ => none
 | k + 1, x3, a1, a2, a0 => if a0 < a2 then (if 0 ≤ a0 then (if a0 < (a1.length : Int) then (Fe.l1 k x3 a1 a2 a0 ((q0e a1 a0).f0) (((q0e a1 a0).f0).length : Int) 0 ((q0e a1 a0).f0) ((q0e a1 a0).f1) ((q0e a1 a0).f2) ((q0e a1 a0).f3)) else (none)) else (none)) else (some true)
def Fe.l1 : Nat → Int → List (S49) → Int → Int → List Int → Int → Int → List Int → Int → Int → Int → Option (Bool)
 | 0, _, _, _, _, _, _, _, _, _, _, _ => none
 | k + 1, x3, a6, a7, a8, a5, a9, a4, a0, a1, a2, a3 => if a4 < a9 then (if 0 ≤ a4 then (if a4 < (a5.length : Int) then (if (rd a5 a4) < 0 then (some false) else (if (rd a5 a4) ≥ x3 then (some false) else (if a4 > 0 then (if 0 ≤ (wrap64 (a4 - 1)) then (if (wrap64 (a4 - 1)) < (a0.length : Int) then (if (rd a5 a4) ≤ (rd a0 (wrap64 (a4 - 1))) then (some false) else (Fe.l1 k x3 a6 a7 a8 a5 a9 (wrap64 (a4 + 1)) a0 a1 a2 a3)) else (none)) else (none)) else (Fe.l1 k x3 a6 a7 a8 a5 a9 (wrap64 (a4 + 1)) a0 a1 a2 a3)))) else (none)) else (none)) else (if a1 < 1 then (some false) else (if a1 > 8 then (some false) else (if a2 < 0 then (some false) else (if a2 > 1048576 then (some false) else (if a3 < 1 then (some false) else (if a3 > 1048576 then (some false) else (Fe.l0 k x3 a6 a7 (wrap64 (a8 + 1)))))))))
end
def Fe.f (k : Nat) (a1 : ByteArray) (a0 : List (S49)) : Option (Bool) := if (a0.length : Int) < 1 then (Fe.j0 k (a0.length : Int) true a1 a0) else (if (a1.size : Int) < 1 then (Fe.j0 k (a0.length : Int) true a1 a0) else (Fe.j0 k (a0.length : Int) (decide ((a1.size : Int) > 16)) a1 a0))
set_option maxHeartbeats 8000000 in
set_option maxRecDepth 100000 in
theorem Fe.calls (k : Nat) (b1 : ByteArray) (d4 : Option Addr) (d3 : Nat) (a1 : List (S49)) (r : Bool) (w : World) (e3 : Kd.C k49 w d4 a1.length a1) (e2 : a1.length ≤ d3) (h : Fe.f k b1 a1 = some r) :
  Calls Try.prog 31 #[.agg #[.string b1, .slice d4 a1.length d3]] w fun e w' => e = .returned (.bool r) ∧ Below w.heap.size w w' := by
 have n1 := Try.underlying24
 have n2 := Try.underlying49
 have g7 := am e3
 have l5 := am e2
 clear e3 e2
 have HB := am (Below.refl w.heap.size w)
 unfold Fe.f at h
 have H := h
 clear h
 have k1 := am H
 clear H
 go_enter Try.func31, Try.ntmps31
 go_upto_region 2 with (first | ((with_reducible refine gD 1 ?_); (try (refine q1e (by rfl) ?_; dsimp only)); refine bz 1 #[.string b1, .slice d4 a1.length d3] 24 HB ?_; clear HB; intro d7 hg w3 hb a5 l3 HB; clear hb hg; have b8 := y2 a5))
 (try simp only [Act.put, List.setIfInBounds_toArray, List.set_cons_zero, List.set_cons_succ])
 go_cut [24] (fun n3 wc => ∃ (kq : Nat) (d2 : Bool), n3 = .bool d2 ∧ q0f (Fe.j0 kq (a1.length : Int) d2 b1 a1 = some r) ∧ q0f (kq ≤ k) ∧ q0f (wc.heap[d7]? = some (.cells #[.string b1, (.slice d4 a1.length d3)] 24 (0, 0))) ∧ q0f (Below w.heap.size w wc))
 case first =>
  have H := k1.out
  clear k1
  by_cases c5 : (a1.length : Int) < 1
  ·
   rw [if_pos c5] at H
   have d6 := decide_eq_true c5
   have k4 : decide (a1.length < 1) = true := decide_eq_true (by omega)
   clear c5
   (first | rw [d6] | (simp only [q2r, q2u]; rw [d6]) | skip)
   have H' := am H
   clear H
   go_wp2
   go_meet
   case rel => exact ⟨_, (true), el, H', ol, ⟨pk a5.out⟩, ⟨pB HB.out⟩⟩
  rw [if_neg c5] at H
  have d6 := decide_eq_false c5
  have k4 : decide (a1.length < 1) = false := decide_eq_false (by omega)
  clear c5
  (first | rw [d6] | (simp only [q2r, q2u]; rw [d6]) | skip)
  by_cases c6 : (b1.size : Int) < 1
  ·
   rw [if_pos c6] at H
   have k5 := decide_eq_true c6
   have k6 : decide (b1.size < 1) = true := decide_eq_true (by omega)
   clear c6
   have H' := am H
   clear H
   have k8 := y2 a5
   go_wp2
   go_meet
   case rel => exact ⟨_, (true), el, H', ol, ⟨pk a5.out⟩, ⟨pB HB.out⟩⟩
  rw [if_neg c6] at H
  have k5 := decide_eq_false c6
  have k6 : decide (b1.size < 1) = false := decide_eq_false (by omega)
  clear c6
  have H' := am H
  clear H
  have k9 := y2 a5
  go_wp2
  go_meet
  case rel => exact ⟨_, (decide ((b1.size : Int) > 16)), el, H', ol, ⟨pk a5.out⟩, ⟨pB HB.out⟩⟩
 case rest =>
  clear k1
  try clear b8
  obtain ⟨kq, d2, rfl, HA, e8, a5, HB⟩ := hcut
  cases kq with
  | zero => exact absurd HA.out (by simp [Fe.j0])
  | succ n0 =>
   have H := HA.out
   clear HA
   simp only [Fe.j0] at H
   by_cases c9 : d2 = true
   ·
    subst c9
    rw [if_pos rfl] at H
    try dsimp only at H
    obtain rfl := Option.some.inj H
    go_wp2
    go_ret
    exact ⟨er, pB HB.out⟩
   replace c9 := Bool.eq_false_iff.mpr c9
   subst c9
   rw [if_neg (show ¬ (false = true) by decide)] at H
   try dsimp only at H
   have H' := am H
   clear H
   have c8 := y2 a5
   go_wp2
   go_loopg [28] n0 (fun kq n4 w' => ∃ (a0 : Int), n4 = .int .i64 a0 ∧ q0f (Fe.l0 kq (a1.length : Int) a1 (a1.length : Int) a0 = some r) ∧ q0f (kq ≤ n0) ∧ q0f (w'.heap[d7]? = some (.cells #[.string b1, (.slice d4 a1.length d3)] 24 (0, 0))) ∧ q0f (Below w.heap.size w w'))
   case atStart => exact ⟨(0), el, H', ⟨Nat.le_refl _⟩, ⟨pk a5.out⟩, ⟨pB HB.out⟩⟩
   case round =>
    clear H'
    try clear c9
    try clear c8
    try clear b8
    try clear a5; try clear HB
    obtain ⟨a0, rfl, HA, e9, a5, HB⟩ := hrel
    cases gk with
    | zero => exact absurd HA.out (by simp [Fe.l0])
    | succ k2 =>
     have H := HA.out
     clear HA
     simp only [Fe.l0] at H
     by_cases e6 : a0 < (a1.length : Int)
     ·
      rw [if_pos e6] at H
      have e1 := decide_eq_true e6
      clear e6
      by_cases g9 : 0 ≤ a0
      ·
       rw [if_pos g9] at H
       have h0 := decide_eq_true g9
       clear g9
       by_cases h2 : a0 < (a1.length : Int)
       ·
        rw [if_pos h2] at H
        have h3 := decide_eq_true h2
        clear h2
        have H' := am H
        clear H
        have d9 : 0 ≤ (a0 : Int) := od
        have e0 : a0 < (a1.length : Int) := od
        obtain ⟨g8, e4, e5, k7, b4, b5, b6, b7, d1, d0⟩ := q1q g7.out a0 d9 e0
        cases k7
        replace b4 := bX HB b4
        replace b5 := bX HB b5
        replace b6 := bX HB b6
        replace b7 := bX HB b7
        have a7 := am d0
        have i6 := am d1
        clear d0 d1
        replace d9 := eq_true d9
        replace e0 := eq_true e0
        go_wp2_with (first | ((with_reducible refine gD 5 ?_); (try (refine q1e (by rfl) ?_; dsimp only)); refine bz 5 #[.slice none 0 0, .int .i64 0, .int .i64 0, .int .i64 0] 49 HB ?_; clear HB; intro i5 hg n6 hb a6 l4 HB; have f5 := nL hg a5; have a3 := nG hg a5; replace a5 := kB a5 hb; clear hb hg; have m0 := nn a3; have d8 := y4 a6))
        go_loopg [35] k2 (fun kq n5 w' => ∃ (a2 : Int), n5 = .int .i64 a2 ∧ q0f (Fe.l1 kq (a1.length : Int) a1 (a1.length : Int) a0 ((q0e a1 a0).f0) (((q0e a1 a0).f0).length : Int) a2 ((q0e a1 a0).f0) ((q0e a1 a0).f1) ((q0e a1 a0).f2) ((q0e a1 a0).f3) = some r) ∧ q0f (kq ≤ k2) ∧ q0f (w'.heap[d7]? = some (.cells #[.string b1, (.slice (some g8) a1.length d3)] 24 (0, 0))) ∧ q0f (w'.heap[i5]? = some (.cells #[(.slice e4 ((q0e a1 a0).f0).length e5), .int .i64 ((q0e a1 a0).f1), .int .i64 ((q0e a1 a0).f2), .int .i64 ((q0e a1 a0).f3)] 49 (0, 0))) ∧ q0f (Below w.heap.size w w'))
        case atStart => exact ⟨(0), el, H', ⟨Nat.le_refl _⟩, ⟨pk a5.out⟩, ⟨pP a6.out⟩, ⟨pB HB.out⟩⟩
        case round =>
         clear H'
         try clear c9
         try clear e6
         try clear e1
         try clear g9
         try clear h0
         try clear h2
         try clear h3
         try clear c8
         try clear d8
         try clear b8
         try clear b4
         try clear b5
         try clear b6
         try clear b7
         try clear d9
         try clear e0
         try clear a5; try clear a6; try clear HB
         obtain ⟨a2, rfl, HA, f4, a5, a6, HB⟩ := hrel
         cases gk with
         | zero => exact absurd HA.out (by simp [Fe.l1])
         | succ k3 =>
          have H := HA.out
          clear HA
          simp only [Fe.l1] at H
          by_cases f6 : a2 < (((q0e a1 a0).f0).length : Int)
          ·
           rw [if_pos f6] at H
           have h4 := decide_eq_true f6
           clear f6
           by_cases i7 : 0 ≤ a2
           ·
            rw [if_pos i7] at H
            have l6 := decide_eq_true i7
            clear i7
            by_cases i8 : a2 < (((q0e a1 a0).f0).length : Int)
            ·
             rw [if_pos i8] at H
             have l7 := decide_eq_true i8
             clear i8
             by_cases f7 : (rd ((q0e a1 a0).f0) a2) < 0
             ·
              rw [if_pos f7] at H
              have h5 := decide_eq_true f7
              clear f7
              obtain rfl := Option.some.inj H
              have a8 : 0 ≤ (a2 : Int) := od
              have a9 : a2 < (((q0e a1 a0).f0).length : Int) := od
              obtain ⟨b2, b3, a4⟩ := Kd.at_int a7.out a2 a8 a9
              cases b3
              replace a4 := bX HB a4
              replace a8 := eq_true a8
              replace a9 := eq_true a9
              go_wp2
              go_ret
              exact ⟨er, pB HB.out⟩
             rw [if_neg f7] at H
             have h5 := decide_eq_false f7
             clear f7
             by_cases f8 : (rd ((q0e a1 a0).f0) a2) ≥ (a1.length : Int)
             ·
              rw [if_pos f8] at H
              have h6 := decide_eq_true f8
              clear f8
              obtain rfl := Option.some.inj H
              have a8 : 0 ≤ (a2 : Int) := od
              have a9 : a2 < (((q0e a1 a0).f0).length : Int) := od
              obtain ⟨b2, b3, a4⟩ := Kd.at_int a7.out a2 a8 a9
              cases b3
              replace a4 := bX HB a4
              replace a8 := eq_true a8
              replace a9 := eq_true a9
              go_wp2
              go_ret
              exact ⟨er, pB HB.out⟩
             rw [if_neg f8] at H
             have h6 := decide_eq_false f8
             clear f8
             by_cases f9 : a2 > 0
             ·
              rw [if_pos f9] at H
              have h7 := decide_eq_true f9
              clear f9
              obtain ⟨ji23, hji23⟩ : ∃ j_ : Int, (wrap64 (a2 - 1)) = j_ := ⟨_, rfl⟩
              replace H : (if 0 ≤ (ji23) then (if (ji23) < (((q0e a1 a0).f0).length : Int) then (if (rd ((q0e a1 a0).f0) a2) ≤ (rd ((q0e a1 a0).f0) (ji23)) then (some false) else (Fe.l1 k3 (a1.length : Int) a1 (a1.length : Int) a0 ((q0e a1 a0).f0) (((q0e a1 a0).f0).length : Int) (wrap64 (a2 + 1)) ((q0e a1 a0).f0) ((q0e a1 a0).f1) ((q0e a1 a0).f2) ((q0e a1 a0).f3))) else (none)) else (none)) = some r := by first | (rw [hji23] at H; exact H) | (simp only [hji23] at H ⊢; exact H)
              have l2 : (IntKind.i64.wrap (a2 - 1)) = ji23 := (q2r _).trans hji23
              by_cases i9 : 0 ≤ (ji23)
              ·
               rw [if_pos i9] at H
               have l8 := decide_eq_true i9
               clear i9
               by_cases j1 : (ji23) < (((q0e a1 a0).f0).length : Int)
               ·
                rw [if_pos j1] at H
                have l9 := decide_eq_true j1
                clear j1
                by_cases g0 : (rd ((q0e a1 a0).f0) a2) ≤ (rd ((q0e a1 a0).f0) (ji23))
                ·
                 rw [if_pos g0] at H
                 have h8 := decide_eq_true g0
                 clear g0
                 obtain rfl := Option.some.inj H
                 have a8 : 0 ≤ (a2 : Int) := od
                 have a9 : a2 < (((q0e a1 a0).f0).length : Int) := od
                 obtain ⟨b2, b3, a4⟩ := Kd.at_int a7.out a2 a8 a9
                 cases b3
                 replace a4 := bX HB a4
                 replace a8 := eq_true a8
                 replace a9 := eq_true a9
                 have m1 := nn a3
                 have j2 := y4 a6
                 have b9 : 0 ≤ ((ji23) : Int) := od
                 have c7 : (ji23) < (((q0e a1 a0).f0).length : Int) := od
                 obtain ⟨d5, e7, b0⟩ := Kd.at_int a7.out (ji23) b9 c7
                 obtain rfl : b2 = d5 := (by injection e7)
                 replace b0 := bX HB b0
                 replace b9 := eq_true b9
                 replace c7 := eq_true c7
                 go_wp2
                 go_ret
                 exact ⟨by first | rfl | (simp [q1t, q1s] <;> rfl) | (simp only [← hji23]; first | rfl | (simp [q1t, q1s] <;> rfl)) | (simp [*, q1t, q1s] <;> rfl), pB HB.out⟩
                rw [if_neg g0] at H
                have h8 := decide_eq_false g0
                clear g0
                have H' := am H
                clear H
                have a8 : 0 ≤ (a2 : Int) := od
                have a9 : a2 < (((q0e a1 a0).f0).length : Int) := od
                obtain ⟨b2, b3, a4⟩ := Kd.at_int a7.out a2 a8 a9
                cases b3
                replace a4 := bX HB a4
                replace a8 := eq_true a8
                replace a9 := eq_true a9
                have m2 := nn a3
                have j3 := y4 a6
                have b9 : 0 ≤ ((ji23) : Int) := od
                have c7 : (ji23) < (((q0e a1 a0).f0).length : Int) := od
                obtain ⟨d5, e7, b0⟩ := Kd.at_int a7.out (ji23) b9 c7
                obtain rfl : b2 = d5 := (by injection e7)
                replace b0 := bX HB b0
                replace b9 := eq_true b9
                replace c7 := eq_true c7
                go_wp2
                go_roundg k3
                case measure => have := e8.out; have := e9.out; have := f4.out; omega
                case rel => exact ⟨(wrap64 (a2 + 1)), el, H', ⟨by have := e8.out; have := e9.out; have := f4.out; omega⟩, ⟨pk a5.out⟩, ⟨pk a6.out⟩, ⟨pB HB.out⟩⟩
               rw [if_neg j1] at H
               exact absurd H (by simp)
              rw [if_neg i9] at H
              exact absurd H (by simp)
             rw [if_neg f9] at H
             have h7 := decide_eq_false f9
             clear f9
             have H' := am H
             clear H
             have a8 : 0 ≤ (a2 : Int) := od
             have a9 : a2 < (((q0e a1 a0).f0).length : Int) := od
             obtain ⟨b2, b3, a4⟩ := Kd.at_int a7.out a2 a8 a9
             cases b3
             replace a4 := bX HB a4
             replace a8 := eq_true a8
             replace a9 := eq_true a9
             go_wp2
             go_roundg k3
             case measure => have := e8.out; have := e9.out; have := f4.out; omega
             case rel => exact ⟨(wrap64 (a2 + 1)), el, H', ⟨by have := e8.out; have := e9.out; have := f4.out; omega⟩, ⟨pk a5.out⟩, ⟨pk a6.out⟩, ⟨pB HB.out⟩⟩
            rw [if_neg i8] at H
            exact absurd H (by simp)
           rw [if_neg i7] at H
           exact absurd H (by simp)
          rw [if_neg f6] at H
          have h4 := decide_eq_false f6
          clear f6
          by_cases g1 : ((q0e a1 a0).f1) < 1
          ·
           rw [if_pos g1] at H
           have h9 := decide_eq_true g1
           clear g1
           obtain rfl := Option.some.inj H
           have m3 := nn a3
           have j4 := y4 a6
           go_wp2
           go_ret
           exact ⟨er, pB HB.out⟩
          rw [if_neg g1] at H
          have h9 := decide_eq_false g1
          clear g1
          by_cases g2 : ((q0e a1 a0).f1) > 8
          ·
           rw [if_pos g2] at H
           have i0 := decide_eq_true g2
           clear g2
           obtain rfl := Option.some.inj H
           have m4 := nn a3
           have j5 := y4 a6
           go_wp2
           go_ret
           exact ⟨er, pB HB.out⟩
          rw [if_neg g2] at H
          have i0 := decide_eq_false g2
          clear g2
          by_cases g3 : ((q0e a1 a0).f2) < 0
          ·
           rw [if_pos g3] at H
           have i1 := decide_eq_true g3
           clear g3
           obtain rfl := Option.some.inj H
           have m5 := nn a3
           have j6 := y4 a6
           go_wp2
           go_ret
           exact ⟨er, pB HB.out⟩
          rw [if_neg g3] at H
          have i1 := decide_eq_false g3
          clear g3
          by_cases g4 : ((q0e a1 a0).f2) > 1048576
          ·
           rw [if_pos g4] at H
           have i2 := decide_eq_true g4
           clear g4
           obtain rfl := Option.some.inj H
           have m6 := nn a3
           have j7 := y4 a6
           go_wp2
           go_ret
           exact ⟨er, pB HB.out⟩
          rw [if_neg g4] at H
          have i2 := decide_eq_false g4
          clear g4
          by_cases g5 : ((q0e a1 a0).f3) < 1
          ·
           rw [if_pos g5] at H
           have i3 := decide_eq_true g5
           clear g5
           obtain rfl := Option.some.inj H
           have m7 := nn a3
           have j8 := y4 a6
           go_wp2
           go_ret
           exact ⟨er, pB HB.out⟩
          rw [if_neg g5] at H
          have i3 := decide_eq_false g5
          clear g5
          by_cases g6 : ((q0e a1 a0).f3) > 1048576
          ·
           rw [if_pos g6] at H
           have i4 := decide_eq_true g6
           clear g6
           obtain rfl := Option.some.inj H
           have m8 := nn a3
           have j9 := y4 a6
           go_wp2
           go_ret
           exact ⟨er, pB HB.out⟩
          rw [if_neg g6] at H
          have i4 := decide_eq_false g6
          clear g6
          have H' := am H
          clear H
          have m9 := nn a3
          have k0 := y4 a6
          go_wp2
          go_roundg k3
          case measure => have := e8.out; have := e9.out; have := f4.out; omega
          case rel => exact ⟨(wrap64 (a0 + 1)), el, H', ⟨by have := e8.out; have := e9.out; have := f4.out; omega⟩, ⟨pk a5.out⟩, ⟨pB HB.out⟩⟩
       rw [if_neg h2] at H
       exact absurd H (by simp)
      rw [if_neg g9] at H
      exact absurd H (by simp)
     rw [if_neg e6] at H
     have e1 := decide_eq_false e6
     clear e6
     obtain rfl := Option.some.inj H
     go_wp2
     go_ret
     exact ⟨er, pB HB.out⟩
mutual
def Fc.l0 : Nat → List Bool → List Int → Int → Int → ByteArray → List (S49) → Option (List Bool)
 | 0, _, _, _, _, _, _ => none
 | k + 1, x5, a3, a4, a2, a0, a1 => if a2 < a4 then (if 0 ≤ a2 then (if a2 < (a3.length : Int) then (if 0 ≤ (rd a3 a2) then (if (rd a3 a2) < (x5.length : Int) then (Fc.l0 k (x5.set ((rd a3 a2) : Int).toNat true) a3 a4 (wrap64 (a2 + 1)) a0 a1) else (none)) else (none)) else (none)) else (none)) else (Fc.l1 k x5 0 a0 a1)
def Fc.l1 : Nat → List Bool → Int → ByteArray → List (S49) → Option (List Bool)
 | 0, _, _, _, _ => none
 | k + 1, x5, x8, a1, a0 => if x8 < (a0.length : Int) then (Fc.l2 k x5 x8 a0 (a0.length : Int) 0 a1 a0) else (some x5)
def Fc.l2 : Nat → List Bool → Int → List (S49) → Int → Int → ByteArray → List (S49) → Option (List Bool)
 | 0, _, _, _, _, _, _, _ => none
 | k + 1, x5, x8, a3, a4, a2, a0, a1 => if a2 < a4 then (if 0 ≤ a2 then (if a2 < (a3.length : Int) then (if a2 < (x5.length : Int) then (if rdOf false x5 a2 = true then (Fc.l3 k x5 x8 a3 a4 a2 ((q0e a3 a2).f0) (((q0e a3 a2).f0).length : Int) 0 a0 a1) else (Fc.l2 k x5 x8 a3 a4 (wrap64 (a2 + 1)) a0 a1)) else (none)) else (none)) else (none)) else (Fc.l1 k x5 (wrap64 (x8 + 1)) a0 a1)
def Fc.l3 : Nat → List Bool → Int → List (S49) → Int → Int → List Int → Int → Int → ByteArray → List (S49) → Option (List Bool)
 | 0, _, _, _, _, _, _, _, _, _, _ => none
 | k + 1, x5, x8, a4, a5, a6, a3, a7, a2, a0, a1 => if a2 < a7 then (if 0 ≤ a2 then (if a2 < (a3.length : Int) then (if 0 ≤ (rd a3 a2) then (if (rd a3 a2) < (x5.length : Int) then (Fc.l3 k (x5.set ((rd a3 a2) : Int).toNat true) x8 a4 a5 a6 a3 a7 (wrap64 (a2 + 1)) a0 a1) else (none)) else (none)) else (none)) else (none)) else (Fc.l2 k x5 x8 a4 a5 (wrap64 (a6 + 1)) a0 a1)
end
def Fc.f (k : Nat) (a2 : ByteArray) (a0 : List (S49)) (a1 : Int) : Option (List Bool) := if 0 ≤ (a0.length : Int) then (if ((a0.length : Int) : Int).toNat ≤ 281474976710656 then (if 0 ≤ a1 then (if a1 < (a0.length : Int) then (Fc.l0 k (List.replicate ((a0.length : Int) : Int).toNat false) ((q0e a0 a1).f0) (((q0e a0 a1).f0).length : Int) 0 a2 a0) else (none)) else (none)) else (none)) else (none)
set_option maxHeartbeats 8000000 in
set_option maxRecDepth 100000 in
theorem Fc.calls (k : Nat) (b9 : ByteArray) (j0 : Option Addr) (e8 : Nat) (a0 : List (S49)) (a1 : Int) (r : List Bool) (w : World) (i9 : Kd.C k49 w j0 a0.length a0) (i8 : a0.length ≤ e8) (h : Fc.f k b9 a0 a1 = some r) :
  Calls Try.prog 32 #[.agg #[.string b9, .slice j0 a0.length e8], .int .i64 a1] w fun e w' => ∃ s1 : Value, e = .returned (s1) ∧ Kd.R Kd.bool 4 w' w.heap.size (fun _ => True) s1 r ∧ Below w.heap.size w w' := by
 have t1 := Try.underlying24
 have t2 := Try.underlying49
 have g5 := am i9
 have q8 := am i8
 clear i9 i8
 have HB := am (Below.refl w.heap.size w)
 unfold Fc.f at h
 have H := h
 clear h
 by_cases c3 : 0 ≤ (a0.length : Int)
 ·
  rw [if_pos c3] at H
  have h4 := eq_true c3
  have h5 := decide_eq_true c3
  clear c3
  by_cases c4 : ((a0.length : Int) : Int).toNat ≤ 281474976710656
  ·
   rw [if_pos c4] at H
   have h6 := eq_true c4
   have h7 := decide_eq_true c4
   clear c4
   obtain ⟨y107, hy107⟩ : ∃ y_ : List Bool, y_ = (List.replicate ((a0.length : Int) : Int).toNat false) := ⟨_, rfl⟩
   replace H : (if 0 ≤ a1 then (if a1 < (a0.length : Int) then (Fc.l0 k y107 ((q0e a0 a1).f0) (((q0e a0 a1).f0).length : Int) 0 b9 a0) else (none)) else (none)) = some r := by first | (rw [hy107]; with_reducible exact H) | (have g4 := (Option.bind_some _ _).symm.trans H; rw [hy107]; with_reducible exact g4) | (have g4 := (Option.bind_some _ _).symm.trans H; with_reducible exact g4) | with_reducible exact H | (rw [hy107]; exact H) | exact H
   have i5 := am hy107
   clear hy107
   by_cases c5 : 0 ≤ a1
   ·
    rw [if_pos c5] at H
    have h8 := decide_eq_true c5
    clear c5
    by_cases c6 : a1 < (a0.length : Int)
    ·
     rw [if_pos c6] at H
     have h9 := decide_eq_true c6
     clear c6
     have H' := am H
     clear H
     go_enter Try.func32, Try.ntmps32
     go_wp2_with (first | ((with_reducible refine gD 2 ?_); refine bz 2 #[.string b9, .slice j0 a0.length e8] 24 HB ?_; clear HB; intro f7 hg w7 hb a3 q7 HB; clear hb hg; have e1 := y2 a3) | ((with_reducible refine gD 16 ?_); refine Kd.R_make Kd.bool _ 4 rfl (N := 16) rfl 56 _ _ rfl (a0.length : Int) rfl rfl Try.underlying56 (.bool false) 1 info4 rfl (by decide) (by omega) false (ok := fun _ => True) (okp := fun _ => True) rfl (fun _ hk => hk) trivial (of_decide_eq_true (by first | (with_reducible assumption) | assumption)) (Nat.le_trans (Nat.mul_le_mul_right _ (of_decide_eq_true (by first | (with_reducible assumption) | assumption) : (a0.length : Int).toNat ≤ 281474976710656)) (by omega)) (Below.refl _ _) (Nat.le_refl _) ?_; intro k6 w9 g8 hb t0 n1; clear t0 n1; (first | rw [← i5.out] at g8 | (simp only [Int.reduceToNat] at g8; rw [← i5.out] at g8)); have l5 := am (Kd.R_lower g8 (q0p (pB HB.out))); replace a3 := kB a3 hb; replace HB := bS HB hb; clear hb g8; have d6 := y2 a3; have e9 : 0 ≤ (a1 : Int) := od; have f4 : a1 < (a0.length : Int) := od; obtain ⟨d8, o5, o8, p0, b1, b2, b3, b4, g0, f9⟩ := q1q g5.out a1 e9 f4; cases p0; replace b1 := bX HB b1; replace b2 := bX HB b2; replace b3 := bX HB b3; replace b4 := bX HB b4; have h2 := am f9; have n3 := am g0; clear f9 g0; replace e9 := eq_true e9; replace f4 := eq_true f4))
     go_loopg [24] k (fun kq t3 w' => ∃ (e6 : List Bool) (a7 : Int), t3 = .int .i64 a7 ∧ q0f (Fc.l0 kq e6 ((q0e a0 a1).f0) (((q0e a0 a1).f0).length : Int) a7 b9 a0 = some r) ∧ q0f (kq ≤ k) ∧ q0f (Kd.R Kd.bool 4 w' w.heap.size (fun _ => True) k6 e6) ∧ q0f (w'.heap[f7]? = some (.cells #[.string b9, (.slice (some d8) a0.length e8)] 24 (0, 0))) ∧ q0f (Below w.heap.size w w'))
     case atStart => exact ⟨(y107), (0), el, H', ⟨Nat.le_refl _⟩, ⟨(pR l5.out)⟩, ⟨pk a3.out⟩, ⟨pB HB.out⟩⟩
     case round =>
      clear H'
      try clear c3
      try clear h4
      try clear h5
      try clear c4
      try clear h6
      try clear h7
      try clear c5
      try clear h8
      try clear c6
      try clear h9
      try clear d6
      try clear e1
      try clear b1
      try clear b2
      try clear b3
      try clear b4
      try clear e9
      try clear f4
      try clear a3; try clear HB
      obtain ⟨e6, a7, rfl, HA, g9, a5, a3, HB⟩ := hrel
      cases gk with
      | zero => exact absurd HA.out (by simp [Fc.l0])
      | succ k1 =>
       have H := HA.out
       clear HA
       simp only [Fc.l0] at H
       by_cases h3 : a7 < (((q0e a0 a1).f0).length : Int)
       ·
        rw [if_pos h3] at H
        have f6 := decide_eq_true h3
        clear h3
        by_cases n5 : 0 ≤ a7
        ·
         rw [if_pos n5] at H
         have r1 := decide_eq_true n5
         clear n5
         by_cases n6 : a7 < (((q0e a0 a1).f0).length : Int)
         ·
          rw [if_pos n6] at H
          have r2 := decide_eq_true n6
          clear n6
          by_cases n7 : 0 ≤ (rd ((q0e a0 a1).f0) a7)
          ·
           rw [if_pos n7] at H
           have r3 := decide_eq_true n7
           clear n7
           by_cases n8 : (rd ((q0e a0 a1).f0) a7) < (e6.length : Int)
           ·
            rw [if_pos n8] at H
            have r4 := decide_eq_true n8
            clear n8
            obtain ⟨y112, hy112⟩ : ∃ y_ : List Bool, y_ = (e6.set ((rd ((q0e a0 a1).f0) a7) : Int).toNat true) := ⟨_, rfl⟩
            replace H : (Fc.l0 k1 y112 ((q0e a0 a1).f0) (((q0e a0 a1).f0).length : Int) (wrap64 (a7 + 1)) b9 a0) = some r := by first | (rw [hy112]; with_reducible exact H) | (have g4 := (Option.bind_some _ _).symm.trans H; rw [hy112]; with_reducible exact g4) | (have g4 := (Option.bind_some _ _).symm.trans H; with_reducible exact g4) | with_reducible exact H | (rw [hy112]; exact H) | exact H
            have l6 := am hy112
            clear hy112
            have H' := am H
            clear H
            have j8 : 0 ≤ (a7 : Int) := od
            have k0 : a7 < (((q0e a0 a1).f0).length : Int) := od
            obtain ⟨q9, p1, g1⟩ := Kd.at_int h2.out a7 j8 k0
            cases p1
            replace g1 := bX HB g1
            replace j8 := eq_true j8
            replace k0 := eq_true k0
            have q1 : 0 ≤ ((rd ((q0e a0 a1).f0) a7) : Int) := od
            have q3 : ((rd ((q0e a0 a1).f0) a7) : Int) < ((e6.length : Int) : Int) := od
            obtain ⟨j6, o9, m7, m9, p5, s6, k9⟩ := Kd.R_form a5.out (by omega)
            (first | cases m7 | (injection m7 with ea_ en_ ec_; (first | subst ea_ | (injection ea_ with ea_; subst ea_)); subst ec_; clear en_))
            have o6 := am m9
            have s4 := am k9
            clear m9 p5 k9
            obtain ⟨p9, p7⟩ := Kd.R_celln false a5.out ((rd ((q0e a0 a1).f0) a7) : Int) q1 q3
            replace q1 := eq_true q1
            replace q3 := eq_true q3
            have j1 := Kd.R_putg a5.out ((rd ((q0e a0 a1).f0) a7) : Int) true
            go_wp2_with (first | ((with_reducible refine q2g (t := 4) (p := 30) rfl ?_); refine q1y (t := 4) (p := 30) (v := ?vo_w19) (w1 := (wr.setCell ⟨j6, ((rd ((q0e a0 a1).f0) a7) : Int).toNat, none⟩ (.bool true))) ?hg ?ho ?hn ?hr ?_; (case ho => rfl); (case hg => rfl); (case hn => rfl); (case hr => first | (go_simp; done) | (go_simp; rfl)); intro q5 hw; have hg : wr.grownBy q5 (some j6) := (by rw [hw]; exact j1.2); have n2 : Kd.R Kd.bool 4 q5 w.heap.size (fun _ => True) (.slice (some ⟨j6, 0, none⟩) e6.length o9) y112 := (by rw [hw, l6.out]; exact j1.1); clear j1; replace a3 := am (q2y (pk a3.out) hg (Kd.R_ne a5.out a3.out (by decide))); replace a5 := am (n2); replace HB := am ((by rw [hw]; exact q0n (HB.out) o6.out : Below w.heap.size w q5)); clear hg hw n2))
            go_roundg k1
            case measure => have := g9.out; omega
            case rel => exact ⟨(y112), (wrap64 (a7 + 1)), el, H', ⟨by have := g9.out; omega⟩, ⟨(pR a5.out)⟩, ⟨pk a3.out⟩, ⟨pB HB.out⟩⟩
           rw [if_neg n8] at H
           exact absurd H (by simp)
          rw [if_neg n7] at H
          exact absurd H (by simp)
         rw [if_neg n6] at H
         exact absurd H (by simp)
        rw [if_neg n5] at H
        exact absurd H (by simp)
       rw [if_neg h3] at H
       have f6 := decide_eq_false h3
       clear h3
       have H' := am H
       clear H
       go_wp2
       go_loopg [8] k1 (fun kq v8 w' => ∃ (i1 : List Bool) (d7 : Int), v8 = .int .i64 d7 ∧ q0f (Fc.l1 kq i1 d7 b9 a0 = some r) ∧ q0f (kq ≤ k1) ∧ q0f (Kd.R Kd.bool 4 w' w.heap.size (fun _ => True) k6 i1) ∧ q0f (w'.heap[f7]? = some (.cells #[.string b9, (.slice (some d8) a0.length e8)] 24 (0, 0))) ∧ q0f (Below w.heap.size w w'))
       case atStart => exact ⟨(e6), (0), el, H', ⟨Nat.le_refl _⟩, ⟨(pR a5.out)⟩, ⟨pk a3.out⟩, ⟨pB HB.out⟩⟩
       case round =>
        clear H'
        try clear c3
        try clear h4
        try clear h5
        try clear c4
        try clear h6
        try clear h7
        try clear c5
        try clear h8
        try clear c6
        try clear h9
        try clear h3
        try clear f6
        try clear d6
        try clear e1
        try clear b1
        try clear b2
        try clear b3
        try clear b4
        try clear e9
        try clear f4
        try clear a3; try clear HB
        obtain ⟨i1, d7, rfl, HA, i2, a5, a3, HB⟩ := hrel
        cases gk with
        | zero => exact absurd HA.out (by simp [Fc.l1])
        | succ k2 =>
         have H := HA.out
         clear HA
         simp only [Fc.l1] at H
         by_cases i6 : d7 < (a0.length : Int)
         ·
          rw [if_pos i6] at H
          have g7 := decide_eq_true i6
          clear i6
          have H' := am H
          clear H
          have f8 := y2 a3
          go_wp2
          go_loopg [42] k2 (fun kq t4 w' => ∃ (d5 : List Bool) (a2 : Int), t4 = .int .i64 a2 ∧ q0f (Fc.l2 kq d5 d7 a0 (a0.length : Int) a2 b9 a0 = some r) ∧ q0f (kq ≤ k2) ∧ q0f (Kd.R Kd.bool 4 w' w.heap.size (fun _ => True) k6 d5) ∧ q0f (w'.heap[f7]? = some (.cells #[.string b9, (.slice (some d8) a0.length e8)] 24 (0, 0))) ∧ q0f (Below w.heap.size w w'))
          case atStart => exact ⟨(i1), (0), el, H', ⟨Nat.le_refl _⟩, ⟨(pR a5.out)⟩, ⟨pk a3.out⟩, ⟨pB HB.out⟩⟩
          case round =>
           clear H'
           try clear c3
           try clear h4
           try clear h5
           try clear c4
           try clear h6
           try clear h7
           try clear c5
           try clear h8
           try clear c6
           try clear h9
           try clear h3
           try clear f6
           try clear i6
           try clear g7
           try clear d6
           try clear f8
           try clear e1
           try clear b1
           try clear b2
           try clear b3
           try clear b4
           try clear e9
           try clear f4
           try clear a3; try clear HB
           obtain ⟨d5, a2, rfl, HA, i3, a5, a3, HB⟩ := hrel
           cases gk with
           | zero => exact absurd HA.out (by simp [Fc.l2])
           | succ k3 =>
            have H := HA.out
            clear HA
            simp only [Fc.l2] at H
            by_cases j3 : a2 < (a0.length : Int)
            ·
             rw [if_pos j3] at H
             have i7 := decide_eq_true j3
             clear j3
             by_cases l8 : 0 ≤ a2
             ·
              rw [if_pos l8] at H
              have l9 := decide_eq_true l8
              clear l8
              by_cases m0 : a2 < (a0.length : Int)
              ·
               rw [if_pos m0] at H
               have m1 := decide_eq_true m0
               clear m0
               by_cases m2 : a2 < (d5.length : Int)
               ·
                rw [if_pos m2] at H
                have m3 := decide_eq_true m2
                clear m2
                obtain ⟨bq26, hbq26⟩ : ∃ b_ : Bool, b_ = (rdOf false d5 a2) := ⟨_, rfl⟩
                replace H : (if bq26 = true then (Fc.l3 k3 d5 d7 a0 (a0.length : Int) a2 ((q0e a0 a2).f0) (((q0e a0 a2).f0).length : Int) 0 b9 a0) else (Fc.l2 k3 d5 d7 a0 (a0.length : Int) (wrap64 (a2 + 1)) b9 a0)) = some r := by rw [← hbq26] at H; exact H
                have i4 := am hbq26
                clear hbq26
                by_cases m4 : bq26 = true
                ·
                 subst m4
                 rw [if_pos rfl] at H
                 try dsimp only at H
                 have H' := am H
                 clear H
                 have e2 : 0 ≤ (a2 : Int) := od
                 have e4 : a2 < (a0.length : Int) := od
                 obtain ⟨g6, d9, e0, j4, b5, b6, b7, b8, c9, c8⟩ := q1q g5.out a2 e2 e4
                 obtain rfl : d8 = g6 := (by injection j4)
                 replace b5 := bX HB b5
                 replace b6 := bX HB b6
                 replace b7 := bX HB b7
                 replace b8 := bX HB b8
                 have f5 := am c8
                 have h0 := am c9
                 clear c8 c9
                 replace e2 := eq_true e2
                 replace e4 := eq_true e4
                 go_wp2_with (first | ((with_reducible refine gD 10 ?_); refine bz 10 #[.slice none 0 0, .int .i64 0, .int .i64 0, .int .i64 0] 49 HB ?_; clear HB; intro a9 hg t6 hb a6 k8 HB; replace a5 := am (Kd.R_below (pR a5.out) hb); have g3 := nL hg a3; have d4 := nG hg a3; replace a3 := kB a3 hb; clear hb hg; have r9 := nn d4; have i0 := y4 a6; obtain ⟨s2, m6, p3⟩ := Kd.R_slice a5.out; subst p3; have e3 : 0 ≤ (a2 : Int) := od; have e5 : a2 < (d5.length : Int) := od; obtain ⟨c7, j5, a4⟩ := Kd.at_bool (Kd.R_reads' a5.out).2.2 a2 e3 e5; (try rw [← i4.out] at a4); cases j5; have d0 : c7.block ≠ a9 := Kd.own_blk (Kd.R_ne a5.out a6.out (by decide)); have d1 : c7.block ≠ a9 := Kd.own_blk (Kd.R_ne a5.out a6.out (by decide)); have d2 : c7.block ≠ a9 := Kd.own_blk (Kd.R_ne a5.out a6.out (by decide)); have d3 : c7.block ≠ a9 := Kd.own_blk (Kd.R_ne a5.out a6.out (by decide)); replace a4 := (cell_far (p := ⟨a9, 0, none⟩) (nb d0) (.slice d9 ((q0e a0 a2).f0).length e0)).trans a4; replace a4 := (cell_far (p := ⟨a9, 1, none⟩) (nb d1) (.int .i64 ((q0e a0 a2).f1))).trans a4; replace a4 := (cell_far (p := ⟨a9, 2, none⟩) (nb d2) (.int .i64 ((q0e a0 a2).f2))).trans a4; replace a4 := (cell_far (p := ⟨a9, 3, none⟩) (nb d3) (.int .i64 ((q0e a0 a2).f3))).trans a4; clear d0 d1 d2 d3; replace e3 := eq_true e3; replace e5 := eq_true e5))
                 go_loopg [54] k3 (fun kq t5 w' => ∃ (e7 : List Bool) (a8 : Int), t5 = .int .i64 a8 ∧ q0f (Fc.l3 kq e7 d7 a0 (a0.length : Int) a2 ((q0e a0 a2).f0) (((q0e a0 a2).f0).length : Int) a8 b9 a0 = some r) ∧ q0f (kq ≤ k3) ∧ q0f (Kd.R Kd.bool 4 w' w.heap.size (fun _ => True) (.slice (some c7) d5.length m6) e7) ∧ q0f (w'.heap[f7]? = some (.cells #[.string b9, (.slice (some d8) a0.length e8)] 24 (0, 0))) ∧ q0f (w'.heap[a9]? = some (.cells #[(.slice d9 ((q0e a0 a2).f0).length e0), .int .i64 ((q0e a0 a2).f1), .int .i64 ((q0e a0 a2).f2), .int .i64 ((q0e a0 a2).f3)] 49 (0, 0))) ∧ q0f (Below w.heap.size w w'))
                 case atStart => exact ⟨(d5), (0), el, H', ⟨Nat.le_refl _⟩, ⟨by exact Kd.R_mono (pR (Kd.R_types a5.out a6.out (by decide))) (fun _ hk => trivial)⟩, ⟨pk a3.out⟩, ⟨pP a6.out⟩, ⟨pB HB.out⟩⟩
                 case round =>
                  clear H'
                  try clear c3
                  try clear h4
                  try clear h5
                  try clear c4
                  try clear h6
                  try clear h7
                  try clear c5
                  try clear h8
                  try clear c6
                  try clear h9
                  try clear h3
                  try clear f6
                  try clear i6
                  try clear g7
                  try clear j3
                  try clear i7
                  try clear l8
                  try clear l9
                  try clear m0
                  try clear m1
                  try clear m2
                  try clear m3
                  try clear m4
                  try clear d6
                  try clear f8
                  try clear i0
                  try clear e1
                  try clear b1
                  try clear b2
                  try clear b3
                  try clear b4
                  try clear b5
                  try clear b6
                  try clear b7
                  try clear b8
                  try clear a4
                  try clear e9
                  try clear e2
                  try clear e3
                  try clear f4
                  try clear e4
                  try clear e5
                  try clear a3; try clear a6; try clear HB
                  obtain ⟨e7, a8, rfl, HA, n4, a5, a3, a6, HB⟩ := hrel
                  have b0 := (Kd.R_reads' a5.out).1
                  rw [b0] at a5
                  (try simp only [b0])
                  (try simp only [b0] at a3)
                  (try simp only [b0] at a6)
                  cases gk with
                  | zero => exact absurd HA.out (by simp [Fc.l3])
                  | succ k4 =>
                   have H := HA.out
                   clear HA
                   simp only [Fc.l3] at H
                   by_cases k7 : a8 < (((q0e a0 a2).f0).length : Int)
                   ·
                    rw [if_pos k7] at H
                    have m5 := decide_eq_true k7
                    clear k7
                    by_cases n9 : 0 ≤ a8
                    ·
                     rw [if_pos n9] at H
                     have r5 := decide_eq_true n9
                     clear n9
                     by_cases o0 : a8 < (((q0e a0 a2).f0).length : Int)
                     ·
                      rw [if_pos o0] at H
                      have r6 := decide_eq_true o0
                      clear o0
                      by_cases o1 : 0 ≤ (rd ((q0e a0 a2).f0) a8)
                      ·
                       rw [if_pos o1] at H
                       have r7 := decide_eq_true o1
                       clear o1
                       by_cases o2 : (rd ((q0e a0 a2).f0) a8) < (e7.length : Int)
                       ·
                        rw [if_pos o2] at H
                        have r8 := decide_eq_true o2
                        clear o2
                        obtain ⟨y117, hy117⟩ : ∃ y_ : List Bool, y_ = (e7.set ((rd ((q0e a0 a2).f0) a8) : Int).toNat true) := ⟨_, rfl⟩
                        replace H : (Fc.l3 k4 y117 d7 a0 (a0.length : Int) a2 ((q0e a0 a2).f0) (((q0e a0 a2).f0).length : Int) (wrap64 (a8 + 1)) b9 a0) = some r := by first | (rw [hy117]; with_reducible exact H) | (have g4 := (Option.bind_some _ _).symm.trans H; rw [hy117]; with_reducible exact g4) | (have g4 := (Option.bind_some _ _).symm.trans H; with_reducible exact g4) | with_reducible exact H | (rw [hy117]; exact H) | exact H
                        have l7 := am hy117
                        clear hy117
                        have H' := am H
                        clear H
                        have j9 : 0 ≤ (a8 : Int) := od
                        have k5 : a8 < (((q0e a0 a2).f0).length : Int) := od
                        obtain ⟨r0, p2, g2⟩ := Kd.at_int f5.out a8 j9 k5
                        cases p2
                        replace g2 := bX HB g2
                        replace j9 := eq_true j9
                        replace k5 := eq_true k5
                        have q2 : 0 ≤ ((rd ((q0e a0 a2).f0) a8) : Int) := od
                        have q4 : ((rd ((q0e a0 a2).f0) a8) : Int) < ((e7.length : Int) : Int) := od
                        obtain ⟨j7, s8, m8, n0, p6, s7, l4⟩ := Kd.R_form a5.out (by omega)
                        (first | cases m8 | (injection m8 with ea_ en_ ec_; (first | subst ea_ | (injection ea_ with ea_; subst ea_)); subst ec_; clear en_))
                        have o7 := am n0
                        have s5 := am l4
                        clear n0 p6 l4
                        (first | simp only [add_plain] at a4 | skip)
                        obtain ⟨q0, p8⟩ := Kd.R_celln false a5.out ((rd ((q0e a0 a2).f0) a8) : Int) q2 q4
                        replace q2 := eq_true q2
                        replace q4 := eq_true q4
                        have j2 := Kd.R_putg a5.out ((rd ((q0e a0 a2).f0) a8) : Int) true
                        go_wp2_with (first | ((with_reducible refine q2g (t := 4) (p := 60) rfl ?_); refine q1y (t := 4) (p := 60) (v := ?vo_w39) (w1 := (wr.setCell ⟨j7, ((rd ((q0e a0 a2).f0) a8) : Int).toNat, none⟩ (.bool true))) ?hg ?ho ?hn ?hr ?_; (case ho => rfl); (case hg => rfl); (case hn => rfl); (case hr => first | (go_simp; done) | (go_simp; rfl)); intro q6 hw; have hg : wr.grownBy q6 (some j7) := (by rw [hw]; exact j2.2); have n2 : Kd.R Kd.bool 4 q6 w.heap.size (fun _ => True) (.slice (some ⟨j7, 0, none⟩) e7.length m6) y117 := (by rw [hw, l7.out]; exact j2.1); clear j2; replace a3 := am (q2y (pk a3.out) hg (Kd.R_ne a5.out a3.out (by decide))); replace a6 := am (q2y (pk a6.out) hg (Kd.R_ne a5.out a6.out (by decide))); replace a5 := am (n2); replace HB := am ((by rw [hw]; exact q0n (HB.out) o7.out : Below w.heap.size w q6)); clear hg hw n2))
                        (try simp only [← b0])
                        go_roundg k4
                        case measure => have := g9.out; have := i2.out; have := i3.out; have := n4.out; omega
                        case rel => exact ⟨(y117), (wrap64 (a8 + 1)), el, H', ⟨by have := g9.out; have := i2.out; have := i3.out; have := n4.out; omega⟩, ⟨by (try simp only [b0]); exact (pR a5.out)⟩, ⟨by (try simp only [b0]); exact (pk a3.out)⟩, ⟨by (try simp only [b0]); exact (pk a6.out)⟩, ⟨pB HB.out⟩⟩
                       rw [if_neg o2] at H
                       exact absurd H (by simp)
                      rw [if_neg o1] at H
                      exact absurd H (by simp)
                     rw [if_neg o0] at H
                     exact absurd H (by simp)
                    rw [if_neg n9] at H
                    exact absurd H (by simp)
                   rw [if_neg k7] at H
                   have m5 := decide_eq_false k7
                   clear k7
                   have H' := am H
                   clear H
                   go_wp2
                   (try simp only [← b0])
                   go_roundg k4
                   case measure => have := g9.out; have := i2.out; have := i3.out; have := n4.out; omega
                   case rel => exact ⟨(e7), (wrap64 (a2 + 1)), el, H', ⟨by have := g9.out; have := i2.out; have := i3.out; have := n4.out; omega⟩, ⟨by (try simp only [b0]); exact (pR a5.out)⟩, ⟨by (try simp only [b0]); exact (pk a3.out)⟩, ⟨pB HB.out⟩⟩
                replace m4 := Bool.eq_false_iff.mpr m4
                subst m4
                rw [if_neg (show ¬ (false = true) by decide)] at H
                try dsimp only at H
                have H' := am H
                clear H
                have e2 : 0 ≤ (a2 : Int) := od
                have e4 : a2 < (a0.length : Int) := od
                obtain ⟨g6, d9, e0, j4, b5, b6, b7, b8, c9, c8⟩ := q1q g5.out a2 e2 e4
                obtain rfl : d8 = g6 := (by injection j4)
                replace b5 := bX HB b5
                replace b6 := bX HB b6
                replace b7 := bX HB b7
                replace b8 := bX HB b8
                have f5 := am c8
                have h0 := am c9
                clear c8 c9
                replace e2 := eq_true e2
                replace e4 := eq_true e4
                go_wp2_with (first | ((with_reducible refine gD 10 ?_); refine bz 10 #[.slice none 0 0, .int .i64 0, .int .i64 0, .int .i64 0] 49 HB ?_; clear HB; intro a9 hg t7 hb a6 k8 HB; replace a5 := am (Kd.R_below (pR a5.out) hb); have g3 := nL hg a3; have d4 := nG hg a3; replace a3 := kB a3 hb; clear hb hg; have s0 := nn d4; have o3 := y4 a6; obtain ⟨s3, s9, p4⟩ := Kd.R_slice a5.out; subst p4; have e3 : 0 ≤ (a2 : Int) := od; have e5 : a2 < (d5.length : Int) := od; obtain ⟨c7, j5, a4⟩ := Kd.at_bool (Kd.R_reads' a5.out).2.2 a2 e3 e5; (try rw [← i4.out] at a4); cases j5; have d0 : c7.block ≠ a9 := Kd.own_blk (Kd.R_ne a5.out a6.out (by decide)); have d1 : c7.block ≠ a9 := Kd.own_blk (Kd.R_ne a5.out a6.out (by decide)); have d2 : c7.block ≠ a9 := Kd.own_blk (Kd.R_ne a5.out a6.out (by decide)); have d3 : c7.block ≠ a9 := Kd.own_blk (Kd.R_ne a5.out a6.out (by decide)); replace a4 := (cell_far (p := ⟨a9, 0, none⟩) (nb d0) (.slice d9 ((q0e a0 a2).f0).length e0)).trans a4; replace a4 := (cell_far (p := ⟨a9, 1, none⟩) (nb d1) (.int .i64 ((q0e a0 a2).f1))).trans a4; replace a4 := (cell_far (p := ⟨a9, 2, none⟩) (nb d2) (.int .i64 ((q0e a0 a2).f2))).trans a4; replace a4 := (cell_far (p := ⟨a9, 3, none⟩) (nb d3) (.int .i64 ((q0e a0 a2).f3))).trans a4; clear d0 d1 d2 d3; replace e3 := eq_true e3; replace e5 := eq_true e5))
                go_roundg k3
                case measure => have := g9.out; have := i2.out; have := i3.out; omega
                case rel => exact ⟨(d5), (wrap64 (a2 + 1)), el, H', ⟨by have := g9.out; have := i2.out; have := i3.out; omega⟩, ⟨by exact Kd.R_mono (pR (Kd.R_types a5.out a6.out (by decide))) (fun _ hk => trivial)⟩, ⟨pk a3.out⟩, ⟨pB HB.out⟩⟩
               rw [if_neg m2] at H
               exact absurd H (by simp)
              rw [if_neg m0] at H
              exact absurd H (by simp)
             rw [if_neg l8] at H
             exact absurd H (by simp)
            rw [if_neg j3] at H
            have i7 := decide_eq_false j3
            clear j3
            have H' := am H
            clear H
            go_wp2
            go_roundg k3
            case measure => have := g9.out; have := i2.out; have := i3.out; omega
            case rel => exact ⟨(d5), (wrap64 (d7 + 1)), el, H', ⟨by have := g9.out; have := i2.out; have := i3.out; omega⟩, ⟨(pR a5.out)⟩, ⟨pk a3.out⟩, ⟨pB HB.out⟩⟩
         rw [if_neg i6] at H
         have g7 := decide_eq_false i6
         clear i6
         obtain rfl := Option.some.inj H
         have o4 := y2 a3
         go_wp2
         go_ret
         exact ⟨_, by first | rfl | (simp [q1t, q1s] <;> rfl) | (simp [*, q1t, q1s] <;> rfl), (pR a5.out), pB HB.out⟩
    rw [if_neg c6] at H
    exact absurd H (by simp)
   rw [if_neg c5] at H
   exact absurd H (by simp)
  rw [if_neg c4] at H
  exact absurd H (by simp)
 rw [if_neg c3] at H
 exact absurd H (by simp)
def Fi.l0 : Nat → Int → Int → ByteArray → List (S49) → Option (Int)
 | 0, _, _, _, _ => none
 | k + 1, a4, a2, a0, a1 => if a2 < a4 then ((Fc.f k a0 a1 a2).bind fun a3 => (if 0 ≤ a2 then (if a2 < (a3.length : Int) then (if rdOf false a3 a2 = true then (some 160) else (Fi.l0 k a4 (wrap64 (a2 + 1)) a0 a1)) else (none)) else (none))) else (some 0)
def Fi.f (k : Nat) (a1 : ByteArray) (a0 : List (S49)) : Option (Int) := if (a0.length : Int) > 10 then (some 2) else ((Fe.f k a1 a0).bind fun a2 => (if a2 = true then (Fi.l0 k (a0.length : Int) 0 a1 a0) else (some 1)))
set_option maxHeartbeats 8000000 in
set_option maxRecDepth 100000 in
theorem Fi.calls (k : Nat) (a3 : ByteArray) (a4 : Option Addr) (a5 : Nat) (a2 : List (S49)) (r : Int) (w : World) (b8 : Kd.C k49 w a4 a2.length a2) (b7 : a2.length ≤ a5) (h : Fi.f k a3 a2 = some r) :
  Calls Try.prog 11 #[.agg #[.string a3, .slice a4 a2.length a5]] w fun e w' => e = .returned (.int .i64 r) ∧ Below w.heap.size w w' := by
 have f5 := Try.underlying24
 have b1 := am b8
 have b0 := am b7
 clear b8 b7
 have HB := am (Below.refl w.heap.size w)
 unfold Fi.f at h
 have H := h
 clear h
 by_cases c2 : (a2.length : Int) > 10
 ·
  rw [if_pos c2] at H
  have d2 := decide_eq_true c2
  have d3 : decide (10 < a2.length) = true := decide_eq_true (by omega)
  clear c2
  obtain rfl := Option.some.inj H
  go_enter Try.func11, Try.ntmps11
  go_wp2_with (first | ((with_reducible refine gD 1 ?_); refine bz 1 #[.string a3, .slice a4 a2.length a5] 24 HB ?_; clear HB; intro b3 hg w3 hb a0 b5 HB; clear hb hg; have e3 := y2 a0))
  go_ret
  exact ⟨er, pB HB.out⟩
 rw [if_neg c2] at H
 have d2 := decide_eq_false c2
 have d3 : decide (10 < a2.length) = false := decide_eq_false (by omega)
 clear c2
 replace H := Option.bind_eq_some_iff.mp H
 obtain ⟨e4, e7, H⟩ := H
 try dsimp only at H
 have A5 := am e7
 clear e7
 by_cases c6 : e4 = true
 ·
  subst c6
  rw [if_pos rfl] at H
  try dsimp only at H
  have H' := am H
  clear H
  go_enter Try.func11, Try.ntmps11
  go_wp2_with (first | ((with_reducible refine gD 1 ?_); refine bz 1 #[.string a3, .slice a4 a2.length a5] 24 HB ?_; clear HB; intro b3 hg w7 hb a0 b5 HB; clear hb hg; have c7 := y2 a0) | ((with_reducible refine gC 31 ?_); refine gL 10 Try.func31 #[.agg #[.string a3, .slice a4 a2.length a5]] ?_; (with_reducible refine (Fe.calls k a3 _ _ a2 true _ ?side1 ?side2 A5.out).mono ?_); (case side1 => exact (Kd.C_below b1.out (pB HB.out))); (case side2 => exact b0.out); rintro e w9 ⟨rfl, hb⟩; refine ⟨_, rfl, ?_⟩; replace a0 := kB a0 hb; replace HB := bS HB hb; (try clear hb); have b4 := y2 a0))
  go_loopg [15] k (fun kq f6 w' => ∃ (a1 : Int), f6 = .int .i64 a1 ∧ q0f (Fi.l0 kq (a2.length : Int) a1 a3 a2 = some r) ∧ q0f (kq ≤ k) ∧ q0f (w'.heap[b3]? = some (.cells #[.string a3, (.slice a4 a2.length a5)] 24 (0, 0))) ∧ q0f (Below w.heap.size w w'))
  case atStart => exact ⟨(0), el, H', ⟨Nat.le_refl _⟩, ⟨pk a0.out⟩, ⟨pB HB.out⟩⟩
  case round =>
   clear H'
   try clear c2
   try clear d2
   try clear d3
   try clear c6
   try clear b4
   try clear c7
   try clear a0; try clear HB
   obtain ⟨a1, rfl, HA, e8, a0, HB⟩ := hrel
   cases gk with
   | zero => exact absurd HA.out (by simp [Fi.l0])
   | succ k1 =>
    have H := HA.out
    clear HA
    simp only [Fi.l0] at H
    by_cases c8 : a1 < (a2.length : Int)
    ·
     rw [if_pos c8] at H
     have d1 := decide_eq_true c8
     clear c8
     replace H := Option.bind_eq_some_iff.mp H
     obtain ⟨b2, c9, H⟩ := H
     try dsimp only at H
     have e6 := am c9
     clear c9
     by_cases d5 : 0 ≤ a1
     ·
      rw [if_pos d5] at H
      have e9 := decide_eq_true d5
      clear d5
      by_cases d6 : a1 < (b2.length : Int)
      ·
       rw [if_pos d6] at H
       have f0 := decide_eq_true d6
       clear d6
       obtain ⟨bq15, hbq15⟩ : ∃ b_ : Bool, b_ = (rdOf false b2 a1) := ⟨_, rfl⟩
       replace H : (if bq15 = true then (some 160) else (Fi.l0 k1 (a2.length : Int) (wrap64 (a1 + 1)) a3 a2)) = some r := by rw [← hbq15] at H; exact H
       have b6 := am hbq15
       clear hbq15
       by_cases d7 : bq15 = true
       ·
        subst d7
        rw [if_pos rfl] at H
        try dsimp only at H
        obtain rfl := Option.some.inj H
        have d8 := y2 a0
        go_wp2_with (first | ((with_reducible refine gC 32 ?_); refine gL 20 Try.func32 #[.agg #[.string a3, .slice a4 a2.length a5], .int .i64 a1] ?_; (with_reducible refine (Fc.calls k1 a3 _ _ a2 a1 b2 _ ?side1 ?side2 e6.out).mono ?_); (case side1 => exact (Kd.C_below b1.out (pB HB.out))); (case side2 => exact b0.out); rintro e f7 ⟨e5, rfl, d4, hb⟩; refine ⟨_, rfl, ?_⟩; have a7 := am (Kd.R_lower d4 (q0p (pB HB.out))); replace a0 := kB a0 hb; replace HB := bS HB hb; (try clear hb); (try clear d4); obtain ⟨f1, f3, e1⟩ := Kd.R_slice a7.out; subst e1; have a8 : 0 ≤ (a1 : Int) := od; have a9 : a1 < (b2.length : Int) := od; obtain ⟨d0, b9, a6⟩ := Kd.at_bool (Kd.R_reads' a7.out).2.2 a1 a8 a9; (try rw [← b6.out] at a6); cases b9; replace a8 := eq_true a8; replace a9 := eq_true a9))
        go_ret
        exact ⟨er, pB HB.out⟩
       replace d7 := Bool.eq_false_iff.mpr d7
       subst d7
       rw [if_neg (show ¬ (false = true) by decide)] at H
       try dsimp only at H
       have H' := am H
       clear H
       have d9 := y2 a0
       go_wp2_with (first | ((with_reducible refine gC 32 ?_); refine gL 20 Try.func32 #[.agg #[.string a3, .slice a4 a2.length a5], .int .i64 a1] ?_; (with_reducible refine (Fc.calls k1 a3 _ _ a2 a1 b2 _ ?side1 ?side2 e6.out).mono ?_); (case side1 => exact (Kd.C_below b1.out (pB HB.out))); (case side2 => exact b0.out); rintro e f8 ⟨e5, rfl, d4, hb⟩; refine ⟨_, rfl, ?_⟩; have a7 := am (Kd.R_lower d4 (q0p (pB HB.out))); replace a0 := kB a0 hb; replace HB := bS HB hb; (try clear hb); (try clear d4); obtain ⟨f2, f4, e2⟩ := Kd.R_slice a7.out; subst e2; have a8 : 0 ≤ (a1 : Int) := od; have a9 : a1 < (b2.length : Int) := od; obtain ⟨d0, b9, a6⟩ := Kd.at_bool (Kd.R_reads' a7.out).2.2 a1 a8 a9; (try rw [← b6.out] at a6); cases b9; replace a8 := eq_true a8; replace a9 := eq_true a9))
       go_roundg k1
       case measure => have := e8.out; omega
       case rel => exact ⟨(wrap64 (a1 + 1)), el, H', ⟨by have := e8.out; omega⟩, ⟨pk a0.out⟩, ⟨pB HB.out⟩⟩
      rw [if_neg d6] at H
      exact absurd H (by simp)
     rw [if_neg d5] at H
     exact absurd H (by simp)
    rw [if_neg c8] at H
    have d1 := decide_eq_false c8
    clear c8
    obtain rfl := Option.some.inj H
    go_wp2
    go_ret
    exact ⟨er, pB HB.out⟩
 replace c6 := Bool.eq_false_iff.mpr c6
 subst c6
 rw [if_neg (show ¬ (false = true) by decide)] at H
 try dsimp only at H
 obtain rfl := Option.some.inj H
 go_enter Try.func11, Try.ntmps11
 go_wp2_with (first | ((with_reducible refine gD 1 ?_); refine bz 1 #[.string a3, .slice a4 a2.length a5] 24 HB ?_; clear HB; intro b3 hg f9 hb a0 b5 HB; clear hb hg; have e0 := y2 a0) | ((with_reducible refine gC 31 ?_); refine gL 10 Try.func31 #[.agg #[.string a3, .slice a4 a2.length a5]] ?_; (with_reducible refine (Fe.calls k a3 _ _ a2 false _ ?side1 ?side2 A5.out).mono ?_); (case side1 => exact (Kd.C_below b1.out (pB HB.out))); (case side2 => exact b0.out); rintro e g0 ⟨rfl, hb⟩; refine ⟨_, rfl, ?_⟩; replace a0 := kB a0 hb; replace HB := bS HB hb; (try clear hb)))
 go_ret
 exact ⟨er, pB HB.out⟩
def Fk.l0 : Nat → List Int → Int → Int → ByteArray → ByteArray → List (S49) → Int → List (S51) → Option (Bool)
 | 0, _, _, _, _, _, _, _, _ => none
 | k + 1, a6, a7, a5, a1, a2, a3, a4, a0 => if a5 < a7 then (if 0 ≤ a5 then (if a5 < (a6.length : Int) then (if 0 ≤ (rd a6 a5) then (if (rd a6 a5) < (a0.length : Int) then (if ((q0c a0 (rd a6 a5)).f0) = 3 then (Fk.l0 k a6 a7 (wrap64 (a5 + 1)) a1 a2 a3 a4 a0) else (some false)) else (none)) else (none)) else (none)) else (none)) else (some true)
def Fk.f (k : Nat) (a2 : ByteArray) (a3 : ByteArray) (a0 : List (S49)) (a4 : Int) (a5 : List (S51)) (a1 : Int) : Option (Bool) := if 0 ≤ a1 then (if a1 < (a0.length : Int) then (Fk.l0 k ((q0e a0 a1).f0) (((q0e a0 a1).f0).length : Int) 0 a2 a3 a0 a4 a5) else (none)) else (none)
set_option maxHeartbeats 8000000 in
set_option maxRecDepth 100000 in
theorem Fk.calls (k : Nat) (d1 : ByteArray) (d2 : ByteArray) (e4 : Option Addr) (d5 : Nat) (a2 : List (S49)) (d3 : Int) (d4 : Option Addr) (d6 : Nat) (a9 : List (S51)) (a1 : Int) (r : Bool) (w : World) (e2 : Kd.C k49 w e4 a2.length a2) (e0 : a2.length ≤ d5) (e3 : Kd.C k51 w d4 a9.length a9) (e1 : a9.length ≤ d6) (h : Fk.f k d1 d2 a2 d3 a9 a1 = some r) :
  Calls Try.prog 41 #[.agg #[.string d1, .string d2, .slice e4 a2.length d5, .int .i64 d3, .slice d4 a9.length d6], .int .i64 a1] w fun e w' => e = .returned (.bool r) ∧ Below w.heap.size w w' := by
 have h7 := Try.underlying27
 have e8 := am e2
 have g9 := am e0
 clear e2 e0
 have d9 := am e3
 have h0 := am e1
 clear e3 e1
 have HB := am (Below.refl w.heap.size w)
 unfold Fk.f at h
 have H := h
 clear h
 by_cases c3 : 0 ≤ a1
 ·
  rw [if_pos c3] at H
  have g4 := decide_eq_true c3
  clear c3
  by_cases c4 : a1 < (a2.length : Int)
  ·
   rw [if_pos c4] at H
   have g5 := decide_eq_true c4
   clear c4
   have H' := am H
   clear H
   go_enter Try.func41, Try.ntmps41
   go_wp2_with (first | ((with_reducible refine gD 2 ?_); refine bz 2 #[.string d1, .string d2, .slice e4 a2.length d5, .int .i64 d3, .slice d4 a9.length d6] 27 HB ?_; clear HB; intro f6 hg w5 hb b0 g8 HB; clear hb hg; have e7 := y5 b0; have d7 : 0 ≤ (a1 : Int) := od; have d8 : a1 < (a2.length : Int) := od; obtain ⟨e9, g2, g3, g7, b1, b2, b3, b4, d0, c6⟩ := q1q e8.out a1 d7 d8; cases g7; replace b1 := bX HB b1; replace b2 := bX HB b2; replace b3 := bX HB b3; replace b4 := bX HB b4; have b9 := am c6; have f7 := am d0; clear c6 d0; replace d7 := eq_true d7; replace d8 := eq_true d8))
   go_loopg [15] k (fun kq h8 w' => ∃ (a0 : Int), h8 = .int .i64 a0 ∧ q0f (Fk.l0 kq ((q0e a2 a1).f0) (((q0e a2 a1).f0).length : Int) a0 d1 d2 a2 d3 a9 = some r) ∧ q0f (kq ≤ k) ∧ q0f (w'.heap[f6]? = some (.cells #[.string d1, .string d2, (.slice (some e9) a2.length d5), .int .i64 d3, (.slice d4 a9.length d6)] 27 (0, 0))) ∧ q0f (Below w.heap.size w w'))
   case atStart => exact ⟨(0), el, H', ⟨Nat.le_refl _⟩, ⟨pk b0.out⟩, ⟨pB HB.out⟩⟩
   case round =>
    clear H'
    try clear c3
    try clear g4
    try clear c4
    try clear g5
    try clear e7
    try clear b1
    try clear b2
    try clear b3
    try clear b4
    try clear d7
    try clear d8
    try clear b0; try clear HB
    obtain ⟨a0, rfl, HA, h2, b0, HB⟩ := hrel
    cases gk with
    | zero => exact absurd HA.out (by simp [Fk.l0])
    | succ k1 =>
     have H := HA.out
     clear HA
     simp only [Fk.l0] at H
     by_cases c7 : a0 < (((q0e a2 a1).f0).length : Int)
     ·
      rw [if_pos c7] at H
      have g6 := decide_eq_true c7
      clear c7
      by_cases c8 : 0 ≤ a0
      ·
       rw [if_pos c8] at H
       have h5 := decide_eq_true c8
       clear c8
       by_cases c9 : a0 < (((q0e a2 a1).f0).length : Int)
       ·
        rw [if_pos c9] at H
        have h6 := decide_eq_true c9
        clear c9
        by_cases f8 : 0 ≤ (rd ((q0e a2 a1).f0) a0)
        ·
         rw [if_pos f8] at H
         have h3 := decide_eq_true f8
         clear f8
         by_cases f9 : (rd ((q0e a2 a1).f0) a0) < (a9.length : Int)
         ·
          rw [if_pos f9] at H
          have h4 := decide_eq_true f9
          clear f9
          by_cases f3 : ((q0c a9 (rd ((q0e a2 a1).f0) a0)).f0) = 3
          ·
           rw [if_pos f3] at H
           obtain ⟨f4, f5⟩ := qt f3
           clear f3
           have H' := am H
           clear H
           have b5 : 0 ≤ (a0 : Int) := od
           have b7 : a0 < (((q0e a2 a1).f0).length : Int) := od
           obtain ⟨f1, e5, a3⟩ := Kd.at_int b9.out a0 b5 b7
           cases e5
           replace a3 := bX HB a3
           replace b5 := eq_true b5
           replace b7 := eq_true b7
           have g0 := y5 b0
           have b6 : 0 ≤ ((rd ((q0e a2 a1).f0) a0) : Int) := od
           have b8 : (rd ((q0e a2 a1).f0) a0) < (a9.length : Int) := od
           obtain ⟨f2, e6, a4, a5, a6, a7, a8⟩ := q1u d9.out (rd ((q0e a2 a1).f0) a0) b6 b8
           cases e6
           replace a4 := bX HB a4
           replace a5 := bX HB a5
           replace a6 := bX HB a6
           replace a7 := bX HB a7
           replace a8 := bX HB a8
           replace b6 := eq_true b6
           replace b8 := eq_true b8
           go_wp2
           go_roundg k1
           case measure => have := h2.out; omega
           case rel => exact ⟨(wrap64 (a0 + 1)), el, H', ⟨by have := h2.out; omega⟩, ⟨pk b0.out⟩, ⟨pB HB.out⟩⟩
          rw [if_neg f3] at H
          obtain ⟨f4, f5⟩ := qf f3
          obtain rfl := Option.some.inj H
          have b5 : 0 ≤ (a0 : Int) := od
          have b7 : a0 < (((q0e a2 a1).f0).length : Int) := od
          obtain ⟨f1, e5, a3⟩ := Kd.at_int b9.out a0 b5 b7
          cases e5
          replace a3 := bX HB a3
          replace b5 := eq_true b5
          replace b7 := eq_true b7
          have g1 := y5 b0
          have b6 : 0 ≤ ((rd ((q0e a2 a1).f0) a0) : Int) := od
          have b8 : (rd ((q0e a2 a1).f0) a0) < (a9.length : Int) := od
          obtain ⟨f2, e6, a4, a5, a6, a7, a8⟩ := q1u d9.out (rd ((q0e a2 a1).f0) a0) b6 b8
          cases e6
          replace a4 := bX HB a4
          replace a5 := bX HB a5
          replace a6 := bX HB a6
          replace a7 := bX HB a7
          replace a8 := bX HB a8
          replace b6 := eq_true b6
          replace b8 := eq_true b8
          go_wp2
          go_ret
          exact ⟨er, pB HB.out⟩
         rw [if_neg f9] at H
         exact absurd H (by simp)
        rw [if_neg f8] at H
        exact absurd H (by simp)
       rw [if_neg c9] at H
       exact absurd H (by simp)
      rw [if_neg c8] at H
      exact absurd H (by simp)
     rw [if_neg c7] at H
     have g6 := decide_eq_false c7
     clear c7
     obtain rfl := Option.some.inj H
     go_wp2
     go_ret
     exact ⟨er, pB HB.out⟩
  rw [if_neg c4] at H
  exact absurd H (by simp)
 rw [if_neg c3] at H
 exact absurd H (by simp)
def Ff.l0 : Nat → Int → List (S51) → Int → Int → Option (Bool)
 | 0, _, _, _, _ => none
 | k + 1, x1, x8, x9, a0 => if a0 < x9 then (if 0 ≤ a0 then (if a0 < (x8.length : Int) then (if ((q0c x8 a0).f0) = x1 then (some true) else (Ff.l0 k x1 x8 x9 (wrap64 (a0 + 1)))) else (none)) else (none)) else (some false)
def Ff.f (k : Nat) (a2 : ByteArray) (a3 : ByteArray) (a5 : List (S49)) (a4 : Int) (a0 : List (S51)) (a1 : Int) : Option (Bool) := Ff.l0 k a1 a0 (a0.length : Int) 0
set_option maxHeartbeats 8000000 in
set_option maxRecDepth 100000 in
theorem Ff.calls (k : Nat) (b7 : ByteArray) (b8 : ByteArray) (b5 : Option Addr) (c9 : Nat) (b0 : List (S49)) (b9 : Int) (b6 : Option Addr) (d0 : Nat) (a8 : List (S51)) (a1 : Int) (r : Bool) (w : World) (d4 : Kd.C k49 w b5 b0.length b0) (d2 : b0.length ≤ c9) (d5 : Kd.C k51 w b6 a8.length a8) (d3 : a8.length ≤ d0) (h : Ff.f k b7 b8 b0 b9 a8 a1 = some r) :
  Calls Try.prog 27 #[.agg #[.string b7, .string b8, .slice b5 b0.length c9, .int .i64 b9, .slice b6 a8.length d0], .int .i64 a1] w fun e w' => e = .returned (.bool r) ∧ Below w.heap.size w w' := by
 have f7 := Try.underlying27
 have f8 := Try.underlying51
 have f2 := am d4
 have e8 := am d2
 clear d4 d2
 have d1 := am d5
 have e9 := am d3
 clear d5 d3
 have HB := am (Below.refl w.heap.size w)
 unfold Ff.f at h
 have H := h
 clear h
 have H' := am H
 clear H
 go_enter Try.func27, Try.ntmps27
 go_wp2_with (first | ((with_reducible refine gD 2 ?_); refine bz 2 #[.string b7, .string b8, .slice b5 b0.length c9, .int .i64 b9, .slice b6 a8.length d0] 27 HB ?_; clear HB; intro e0 hg w3 hb a2 e7 HB; clear hb hg; have d7 := y5 a2))
 go_loopg [10] k (fun kq f9 w' => ∃ (a0 : Int), f9 = .int .i64 a0 ∧ q0f (Ff.l0 kq a1 a8 (a8.length : Int) a0 = some r) ∧ q0f (kq ≤ k) ∧ q0f (w'.heap[e0]? = some (.cells #[.string b7, .string b8, (.slice b5 b0.length c9), .int .i64 b9, (.slice b6 a8.length d0)] 27 (0, 0))) ∧ q0f (Below w.heap.size w w'))
 case atStart => exact ⟨(0), el, H', ⟨Nat.le_refl _⟩, ⟨pk a2.out⟩, ⟨pB HB.out⟩⟩
 case round =>
  clear H'
  try clear d7
  try clear a2; try clear HB
  obtain ⟨a0, rfl, HA, f1, a2, HB⟩ := hrel
  cases gk with
  | zero => exact absurd HA.out (by simp [Ff.l0])
  | succ k1 =>
   have H := HA.out
   clear HA
   simp only [Ff.l0] at H
   by_cases c5 : a0 < (a8.length : Int)
   ·
    rw [if_pos c5] at H
    have e4 := decide_eq_true c5
    clear c5
    by_cases c6 : 0 ≤ a0
    ·
     rw [if_pos c6] at H
     have f5 := decide_eq_true c6
     clear c6
     by_cases c7 : a0 < (a8.length : Int)
     ·
      rw [if_pos c7] at H
      have f6 := decide_eq_true c7
      clear c7
      by_cases c8 : ((q0c a8 a0).f0) = a1
      ·
       rw [if_pos c8] at H
       obtain ⟨e5, e6⟩ := qt c8
       clear c8
       obtain rfl := Option.some.inj H
       have b1 : 0 ≤ (a0 : Int) := od
       have b2 : a0 < (a8.length : Int) := od
       obtain ⟨d9, d6, a3, a4, a5, a6, a7⟩ := q1u d1.out a0 b1 b2
       cases d6
       replace a3 := bX HB a3
       replace a4 := bX HB a4
       replace a5 := bX HB a5
       replace a6 := bX HB a6
       replace a7 := bX HB a7
       replace b1 := eq_true b1
       replace b2 := eq_true b2
       go_wp2_with (first | ((with_reducible refine gD 6 ?_); refine bz 6 #[.int .i64 0, .int .i64 0, .int .i64 0, .int .i64 0, .string (⟨#[]⟩ : ByteArray)] 51 HB ?_; clear HB; intro e1 hg w9 hb b4 d8 HB; have b3 := nL hg a2; have a9 := nG hg a2; replace a2 := kB a2 hb; clear hb hg; have f3 := nn a9; have e2 := y5 b4))
       go_ret
       exact ⟨er, pB HB.out⟩
      rw [if_neg c8] at H
      obtain ⟨e5, e6⟩ := qf c8
      have H' := am H
      clear H
      have b1 : 0 ≤ (a0 : Int) := od
      have b2 : a0 < (a8.length : Int) := od
      obtain ⟨d9, d6, a3, a4, a5, a6, a7⟩ := q1u d1.out a0 b1 b2
      cases d6
      replace a3 := bX HB a3
      replace a4 := bX HB a4
      replace a5 := bX HB a5
      replace a6 := bX HB a6
      replace a7 := bX HB a7
      replace b1 := eq_true b1
      replace b2 := eq_true b2
      go_wp2_with (first | ((with_reducible refine gD 6 ?_); refine bz 6 #[.int .i64 0, .int .i64 0, .int .i64 0, .int .i64 0, .string (⟨#[]⟩ : ByteArray)] 51 HB ?_; clear HB; intro e1 hg g0 hb b4 d8 HB; have b3 := nL hg a2; have a9 := nG hg a2; replace a2 := kB a2 hb; clear hb hg; have f4 := nn a9; have e3 := y5 b4))
      go_roundg k1
      case measure => have := f1.out; omega
      case rel => exact ⟨(wrap64 (a0 + 1)), el, H', ⟨by have := f1.out; omega⟩, ⟨pk a2.out⟩, ⟨pB HB.out⟩⟩
     rw [if_neg c7] at H
     exact absurd H (by simp)
    rw [if_neg c6] at H
    exact absurd H (by simp)
   rw [if_neg c5] at H
   have e4 := decide_eq_false c5
   clear c5
   obtain rfl := Option.some.inj H
   go_wp2
   go_ret
   exact ⟨er, pB HB.out⟩
def Fs.f (k : Nat) (a0 : ByteArray) (a1 : ByteArray) (a3 : List (S49)) (a2 : Int) (a4 : List (S51)) : Option (Bool) := (Ff.f k a0 a1 a3 a2 a4 0).bind fun a5 => (if a5 = true then (some true) else ((Ff.f k a0 a1 a3 a2 a4 1).bind fun a6 => (if a6 = true then (some true) else ((Ff.f k a0 a1 a3 a2 a4 2).bind fun a7 => (some a7)))))
set_option maxHeartbeats 8000000 in
set_option maxRecDepth 100000 in
theorem Fs.calls (k : Nat) (a3 : ByteArray) (a4 : ByteArray) (b0 : Option Addr) (b2 : Nat) (a1 : List (S49)) (a5 : Int) (b1 : Option Addr) (b3 : Nat) (a2 : List (S51)) (r : Bool) (w : World) (b8 : Kd.C k49 w b0 a1.length a1) (b6 : a1.length ≤ b2) (b9 : Kd.C k51 w b1 a2.length a2) (b7 : a2.length ≤ b3) (h : Fs.f k a3 a4 a1 a5 a2 = some r) :
  Calls Try.prog 76 #[.agg #[.string a3, .string a4, .slice b0 a1.length b2, .int .i64 a5, .slice b1 a2.length b3]] w fun e w' => e = .returned (.bool r) ∧ Below w.heap.size w w' := by
 have e0 := Try.underlying27
 have a8 := am b8
 have a6 := am b6
 clear b8 b6
 have a9 := am b9
 have a7 := am b7
 clear b9 b7
 have HB := am (Below.refl w.heap.size w)
 unfold Fs.f at h
 have H := h
 clear h
 replace H := Option.bind_eq_some_iff.mp H
 obtain ⟨d4, d7, H⟩ := H
 try dsimp only at H
 have A2 := am d7
 clear d7
 by_cases c3 : d4 = true
 ·
  subst c3
  rw [if_pos rfl] at H
  try dsimp only at H
  obtain rfl := Option.some.inj H
  go_enter Try.func76, Try.ntmps76
  go_wp2_with (first | ((with_reducible refine gD 1 ?_); refine bz 1 #[.string a3, .string a4, .slice b0 a1.length b2, .int .i64 a5, .slice b1 a2.length b3] 27 HB ?_; clear HB; intro b5 hg w4 hb a0 b4 HB; clear hb hg; have d3 := y5 a0) | ((with_reducible refine gC 27 ?_); refine gL 4 Try.func27 #[.agg #[.string a3, .string a4, .slice b0 a1.length b2, .int .i64 a5, .slice b1 a2.length b3], .int .i64 0] ?_; (with_reducible refine (Ff.calls k a3 a4 _ _ a1 a5 _ _ a2 0 true _ ?side1 ?side2 ?side3 ?side4 A2.out).mono ?_); (case side1 => exact (Kd.C_below a8.out (pB HB.out))); (case side2 => exact a6.out); (case side3 => exact (Kd.C_below a9.out (pB HB.out))); (case side4 => exact a7.out); rintro e w6 ⟨rfl, hb⟩; refine ⟨_, rfl, ?_⟩; replace a0 := kB a0 hb; replace HB := bS HB hb; (try clear hb)))
  go_ret
  exact ⟨er, pB HB.out⟩
 replace c3 := Bool.eq_false_iff.mpr c3
 subst c3
 rw [if_neg (show ¬ (false = true) by decide)] at H
 try dsimp only at H
 replace H := Option.bind_eq_some_iff.mp H
 obtain ⟨d5, d8, H⟩ := H
 try dsimp only at H
 have A7 := am d8
 clear d8
 by_cases c8 : d5 = true
 ·
  subst c8
  rw [if_pos rfl] at H
  try dsimp only at H
  obtain rfl := Option.some.inj H
  go_enter Try.func76, Try.ntmps76
  go_wp2_with (first | ((with_reducible refine gD 1 ?_); refine bz 1 #[.string a3, .string a4, .slice b0 a1.length b2, .int .i64 a5, .slice b1 a2.length b3] 27 HB ?_; clear HB; intro b5 hg w9 hb a0 b4 HB; clear hb hg; have c7 := y5 a0) | ((with_reducible refine gC 27 ?_); refine gL 4 Try.func27 #[.agg #[.string a3, .string a4, .slice b0 a1.length b2, .int .i64 a5, .slice b1 a2.length b3], .int .i64 0] ?_; (with_reducible refine (Ff.calls k a3 a4 _ _ a1 a5 _ _ a2 0 false _ ?side1 ?side2 ?side3 ?side4 A2.out).mono ?_); (case side1 => exact (Kd.C_below a8.out (pB HB.out))); (case side2 => exact a6.out); (case side3 => exact (Kd.C_below a9.out (pB HB.out))); (case side4 => exact a7.out); rintro e e1 ⟨rfl, hb⟩; refine ⟨_, rfl, ?_⟩; replace a0 := kB a0 hb; replace HB := bS HB hb; (try clear hb); have c9 := y5 a0) | (go_at_call 27; (with_reducible refine (Ff.calls k a3 a4 _ _ a1 a5 _ _ a2 1 true _ ?side1 ?side2 ?side3 ?side4 A7.out).mono ?_); (case side1 => exact (Kd.C_below a8.out (pB HB.out))); (case side2 => exact a6.out); (case side3 => exact (Kd.C_below a9.out (pB HB.out))); (case side4 => exact a7.out); rintro e e2 ⟨rfl, hb⟩; replace a0 := kB a0 hb; replace HB := bS HB hb; (try clear hb)))
  go_ret
  exact ⟨er, pB HB.out⟩
 replace c8 := Bool.eq_false_iff.mpr c8
 subst c8
 rw [if_neg (show ¬ (false = true) by decide)] at H
 try dsimp only at H
 replace H := Option.bind_eq_some_iff.mp H
 obtain ⟨d6, c6, H⟩ := H
 try dsimp only at H
 have d9 := am c6
 clear c6
 obtain rfl := Option.some.inj H
 go_enter Try.func76, Try.ntmps76
 go_wp2_with (first | ((with_reducible refine gD 1 ?_); refine bz 1 #[.string a3, .string a4, .slice b0 a1.length b2, .int .i64 a5, .slice b1 a2.length b3] 27 HB ?_; clear HB; intro b5 hg e3 hb a0 b4 HB; clear hb hg; have d0 := y5 a0) | ((with_reducible refine gC 27 ?_); refine gL 4 Try.func27 #[.agg #[.string a3, .string a4, .slice b0 a1.length b2, .int .i64 a5, .slice b1 a2.length b3], .int .i64 0] ?_; (with_reducible refine (Ff.calls k a3 a4 _ _ a1 a5 _ _ a2 0 false _ ?side1 ?side2 ?side3 ?side4 A2.out).mono ?_); (case side1 => exact (Kd.C_below a8.out (pB HB.out))); (case side2 => exact a6.out); (case side3 => exact (Kd.C_below a9.out (pB HB.out))); (case side4 => exact a7.out); rintro e e4 ⟨rfl, hb⟩; refine ⟨_, rfl, ?_⟩; replace a0 := kB a0 hb; replace HB := bS HB hb; (try clear hb); have d1 := y5 a0) | (go_at_call 27; (with_reducible refine (Ff.calls k a3 a4 _ _ a1 a5 _ _ a2 1 false _ ?side1 ?side2 ?side3 ?side4 A7.out).mono ?_); (case side1 => exact (Kd.C_below a8.out (pB HB.out))); (case side2 => exact a6.out); (case side3 => exact (Kd.C_below a9.out (pB HB.out))); (case side4 => exact a7.out); rintro e e5 ⟨rfl, hb⟩; replace a0 := kB a0 hb; replace HB := bS HB hb; (try clear hb); have d2 := y5 a0) | (go_at_call 27; (with_reducible refine (Ff.calls k a3 a4 _ _ a1 a5 _ _ a2 2 d6 _ ?side1 ?side2 ?side3 ?side4 d9.out).mono ?_); (case side1 => exact (Kd.C_below a8.out (pB HB.out))); (case side2 => exact a6.out); (case side3 => exact (Kd.C_below a9.out (pB HB.out))); (case side4 => exact a7.out); rintro e e6 ⟨rfl, hb⟩; replace a0 := kB a0 hb; replace HB := bS HB hb; (try clear hb)))
 go_ret
 exact ⟨er, pB HB.out⟩
def Fr.j0 : Nat → Bool → ByteArray → ByteArray → List (S49) → Int → List (S51) → Option (Bool)
 | 0, _, _, _, _, _, _ => none
 | k + 1, a9, a1, a2, a3, a0, a4 => if a9 = true then (some (a0 == 1)) else ((Ff.f k a1 a2 a3 a0 a4 4).bind fun a5 => (if a5 = true then (if a0 = 2 then ((Fs.f k a1 a2 a3 a0 a4).bind fun a6 => (some (!a6))) else (some false)) else ((Fs.f k a1 a2 a3 a0 a4).bind fun a7 => (if a7 = true then (if a0 = 0 then ((Ff.f k a1 a2 a3 a0 a4 5).bind fun a8 => (some (!a8))) else (some false)) else (some (a0 == 3))))))
def Fr.f (k : Nat) (a0 : ByteArray) (a1 : ByteArray) (a3 : List (S49)) (a2 : Int) (a4 : List (S51)) : Option (Bool) := (Fs.f k a0 a1 a3 a2 a4).bind fun a5 => (if a5 = true then (Fr.j0 k false a0 a1 a3 a2 a4) else ((Ff.f k a0 a1 a3 a2 a4 4).bind fun a6 => (if a6 = true then (Fr.j0 k false a0 a1 a3 a2 a4) else ((Ff.f k a0 a1 a3 a2 a4 5).bind fun a7 => (Fr.j0 k (!a7) a0 a1 a3 a2 a4)))))
set_option maxHeartbeats 8000000 in
set_option maxRecDepth 100000 in
theorem Fr.calls (k : Nat) (a4 : ByteArray) (a5 : ByteArray) (b0 : Option Addr) (b2 : Nat) (a1 : List (S49)) (a3 : Int) (b1 : Option Addr) (b3 : Nat) (a2 : List (S51)) (r : Bool) (w : World) (b8 : Kd.C k49 w b0 a1.length a1) (b6 : a1.length ≤ b2) (b9 : Kd.C k51 w b1 a2.length a2) (b7 : a2.length ≤ b3) (h : Fr.f k a4 a5 a1 a3 a2 = some r) :
  Calls Try.prog 39 #[.agg #[.string a4, .string a5, .slice b0 a1.length b2, .int .i64 a3, .slice b1 a2.length b3]] w fun e w' => e = .returned (.bool r) ∧ Below w.heap.size w w' := by
 have h9 := Try.underlying27
 have a8 := am b8
 have a6 := am b6
 clear b8 b6
 have a9 := am b9
 have a7 := am b7
 clear b9 b7
 have HB := am (Below.refl w.heap.size w)
 unfold Fr.f at h
 have H := h
 clear h
 have g4 := am H
 clear H
 go_enter Try.func39, Try.ntmps39
 go_upto_region 1 with (first | ((with_reducible refine gD 1 ?_); refine bz 1 #[.string a4, .string a5, .slice b0 a1.length b2, .int .i64 a3, .slice b1 a2.length b3] 27 HB ?_; clear HB; intro d9 hg w3 hb a0 h5 HB; clear hb hg))
 (try simp only [Act.put, List.setIfInBounds_toArray, List.set_cons_zero, List.set_cons_succ])
 go_cut [15] (fun i0 wc => ∃ (kq : Nat) (b4 : Bool), i0 = .bool b4 ∧ q0f (Fr.j0 kq b4 a4 a5 a1 a3 a2 = some r) ∧ q0f (kq ≤ k) ∧ q0f (wc.heap[d9]? = some (.cells #[.string a4, .string a5, (.slice b0 a1.length b2), .int .i64 a3, (.slice b1 a2.length b3)] 27 (0, 0))) ∧ q0f (Below w.heap.size w wc))
 case first =>
  have H := g4.out
  clear g4
  replace H := Option.bind_eq_some_iff.mp H
  obtain ⟨g6, h3, H⟩ := H
  try dsimp only at H
  have A4 := am h3
  clear h3
  by_cases c5 : g6 = true
  ·
   subst c5
   rw [if_pos rfl] at H
   try dsimp only at H
   have H' := am H
   clear H
   have g5 := y5 a0
   go_wp2_with (first | ((with_reducible refine gC 76 ?_); refine gL 4 Try.func76 #[.agg #[.string a4, .string a5, .slice b0 a1.length b2, .int .i64 a3, .slice b1 a2.length b3]] ?_; (with_reducible refine (Fs.calls k a4 a5 _ _ a1 a3 _ _ a2 true _ ?side1 ?side2 ?side3 ?side4 A4.out).mono ?_); (case side1 => exact (Kd.C_below a8.out (pB HB.out))); (case side2 => exact a6.out); (case side3 => exact (Kd.C_below a9.out (pB HB.out))); (case side4 => exact a7.out); rintro e w7 ⟨rfl, hb⟩; refine ⟨_, rfl, ?_⟩; replace a0 := kB a0 hb; replace HB := bS HB hb; (try clear hb)))
   go_meet
   case rel => exact ⟨_, (false), el, H', ol, ⟨pk a0.out⟩, ⟨pB HB.out⟩⟩
  replace c5 := Bool.eq_false_iff.mpr c5
  subst c5
  rw [if_neg (show ¬ (false = true) by decide)] at H
  try dsimp only at H
  replace H := Option.bind_eq_some_iff.mp H
  obtain ⟨g7, h4, H⟩ := H
  try dsimp only at H
  have A8 := am h4
  clear h4
  by_cases c9 : g7 = true
  ·
   subst c9
   rw [if_pos rfl] at H
   try dsimp only at H
   have H' := am H
   clear H
   have e4 := y5 a0
   go_wp2_with (first | ((with_reducible refine gC 76 ?_); refine gL 4 Try.func76 #[.agg #[.string a4, .string a5, .slice b0 a1.length b2, .int .i64 a3, .slice b1 a2.length b3]] ?_; (with_reducible refine (Fs.calls k a4 a5 _ _ a1 a3 _ _ a2 false _ ?side1 ?side2 ?side3 ?side4 A4.out).mono ?_); (case side1 => exact (Kd.C_below a8.out (pB HB.out))); (case side2 => exact a6.out); (case side3 => exact (Kd.C_below a9.out (pB HB.out))); (case side4 => exact a7.out); rintro e i2 ⟨rfl, hb⟩; refine ⟨_, rfl, ?_⟩; replace a0 := kB a0 hb; replace HB := bS HB hb; (try clear hb); have e5 := y5 a0) | (go_at_call 27; (with_reducible refine (Ff.calls k a4 a5 _ _ a1 a3 _ _ a2 4 true _ ?side1 ?side2 ?side3 ?side4 A8.out).mono ?_); (case side1 => exact (Kd.C_below a8.out (pB HB.out))); (case side2 => exact a6.out); (case side3 => exact (Kd.C_below a9.out (pB HB.out))); (case side4 => exact a7.out); rintro e i3 ⟨rfl, hb⟩; replace a0 := kB a0 hb; replace HB := bS HB hb; (try clear hb)))
   go_meet
   case rel => exact ⟨_, (false), el, H', ol, ⟨pk a0.out⟩, ⟨pB HB.out⟩⟩
  replace c9 := Bool.eq_false_iff.mpr c9
  subst c9
  rw [if_neg (show ¬ (false = true) by decide)] at H
  try dsimp only at H
  replace H := Option.bind_eq_some_iff.mp H
  obtain ⟨e0, c6, H⟩ := H
  try dsimp only at H
  have h6 := am c6
  clear c6
  have H' := am H
  clear H
  have e6 := y5 a0
  go_wp2_with (first | ((with_reducible refine gC 76 ?_); refine gL 4 Try.func76 #[.agg #[.string a4, .string a5, .slice b0 a1.length b2, .int .i64 a3, .slice b1 a2.length b3]] ?_; (with_reducible refine (Fs.calls k a4 a5 _ _ a1 a3 _ _ a2 false _ ?side1 ?side2 ?side3 ?side4 A4.out).mono ?_); (case side1 => exact (Kd.C_below a8.out (pB HB.out))); (case side2 => exact a6.out); (case side3 => exact (Kd.C_below a9.out (pB HB.out))); (case side4 => exact a7.out); rintro e i4 ⟨rfl, hb⟩; refine ⟨_, rfl, ?_⟩; replace a0 := kB a0 hb; replace HB := bS HB hb; (try clear hb); have e7 := y5 a0) | (go_at_call 27; (with_reducible refine (Ff.calls k a4 a5 _ _ a1 a3 _ _ a2 4 false _ ?side1 ?side2 ?side3 ?side4 A8.out).mono ?_); (case side1 => exact (Kd.C_below a8.out (pB HB.out))); (case side2 => exact a6.out); (case side3 => exact (Kd.C_below a9.out (pB HB.out))); (case side4 => exact a7.out); rintro e i5 ⟨rfl, hb⟩; replace a0 := kB a0 hb; replace HB := bS HB hb; (try clear hb); have e8 := y5 a0) | (go_at_call 27; (with_reducible refine (Ff.calls k a4 a5 _ _ a1 a3 _ _ a2 5 e0 _ ?side1 ?side2 ?side3 ?side4 h6.out).mono ?_); (case side1 => exact (Kd.C_below a8.out (pB HB.out))); (case side2 => exact a6.out); (case side3 => exact (Kd.C_below a9.out (pB HB.out))); (case side4 => exact a7.out); rintro e i6 ⟨rfl, hb⟩; replace a0 := kB a0 hb; replace HB := bS HB hb; (try clear hb)))
  go_meet
  case rel => exact ⟨_, (!e0), el, H', ol, ⟨pk a0.out⟩, ⟨pB HB.out⟩⟩
 case rest =>
  clear g4
  obtain ⟨kq, b4, rfl, HA, i1, a0, HB⟩ := hcut
  cases kq with
  | zero => exact absurd HA.out (by simp [Fr.j0])
  | succ b5 =>
   have H := HA.out
   clear HA
   simp only [Fr.j0] at H
   by_cases e1 : b4 = true
   ·
    subst e1
    rw [if_pos rfl] at H
    try dsimp only at H
    obtain rfl := Option.some.inj H
    have e9 := y5 a0
    go_wp2
    go_ret
    exact ⟨er, pB HB.out⟩
   replace e1 := Bool.eq_false_iff.mpr e1
   subst e1
   rw [if_neg (show ¬ (false = true) by decide)] at H
   try dsimp only at H
   replace H := Option.bind_eq_some_iff.mp H
   obtain ⟨g8, c8, H⟩ := H
   try dsimp only at H
   have c7 := am c8
   clear c8
   by_cases e2 : g8 = true
   ·
    subst e2
    rw [if_pos rfl] at H
    try dsimp only at H
    by_cases d3 : a3 = 2
    ·
     rw [if_pos d3] at H
     obtain ⟨d4, d5⟩ := qt d3
     clear d3
     replace H := Option.bind_eq_some_iff.mp H
     obtain ⟨g9, d0, H⟩ := H
     try dsimp only at H
     have h7 := am d0
     clear d0
     obtain rfl := Option.some.inj H
     have f0 := y5 a0
     go_wp2_with (first | ((with_reducible refine gC 27 ?_); refine gL 20 Try.func27 #[.agg #[.string a4, .string a5, .slice b0 a1.length b2, .int .i64 a3, .slice b1 a2.length b3], .int .i64 4] ?_; (with_reducible refine (Ff.calls b5 a4 a5 _ _ a1 a3 _ _ a2 4 true _ ?side1 ?side2 ?side3 ?side4 c7.out).mono ?_); (case side1 => exact (Kd.C_below a8.out (pB HB.out))); (case side2 => exact a6.out); (case side3 => exact (Kd.C_below a9.out (pB HB.out))); (case side4 => exact a7.out); rintro e i7 ⟨rfl, hb⟩; refine ⟨_, rfl, ?_⟩; replace a0 := kB a0 hb; replace HB := bS HB hb; (try clear hb); have f1 := y5 a0) | (go_at_call 76; (with_reducible refine (Fs.calls b5 a4 a5 _ _ a1 a3 _ _ a2 g9 _ ?side1 ?side2 ?side3 ?side4 h7.out).mono ?_); (case side1 => exact (Kd.C_below a8.out (pB HB.out))); (case side2 => exact a6.out); (case side3 => exact (Kd.C_below a9.out (pB HB.out))); (case side4 => exact a7.out); rintro e i8 ⟨rfl, hb⟩; replace a0 := kB a0 hb; replace HB := bS HB hb; (try clear hb)))
     go_ret
     exact ⟨er, pB HB.out⟩
    rw [if_neg d3] at H
    obtain ⟨d4, d5⟩ := qf d3
    obtain rfl := Option.some.inj H
    have f2 := y5 a0
    go_wp2_with (first | ((with_reducible refine gC 27 ?_); refine gL 20 Try.func27 #[.agg #[.string a4, .string a5, .slice b0 a1.length b2, .int .i64 a3, .slice b1 a2.length b3], .int .i64 4] ?_; (with_reducible refine (Ff.calls b5 a4 a5 _ _ a1 a3 _ _ a2 4 true _ ?side1 ?side2 ?side3 ?side4 c7.out).mono ?_); (case side1 => exact (Kd.C_below a8.out (pB HB.out))); (case side2 => exact a6.out); (case side3 => exact (Kd.C_below a9.out (pB HB.out))); (case side4 => exact a7.out); rintro e i9 ⟨rfl, hb⟩; refine ⟨_, rfl, ?_⟩; replace a0 := kB a0 hb; replace HB := bS HB hb; (try clear hb); have f3 := y5 a0))
    go_ret
    exact ⟨er, pB HB.out⟩
   replace e2 := Bool.eq_false_iff.mpr e2
   subst e2
   rw [if_neg (show ¬ (false = true) by decide)] at H
   try dsimp only at H
   replace H := Option.bind_eq_some_iff.mp H
   obtain ⟨h0, d1, H⟩ := H
   try dsimp only at H
   have g3 := am d1
   clear d1
   by_cases e3 : h0 = true
   ·
    subst e3
    rw [if_pos rfl] at H
    try dsimp only at H
    by_cases d6 : a3 = 0
    ·
     rw [if_pos d6] at H
     obtain ⟨d7, d8⟩ := qt d6
     clear d6
     replace H := Option.bind_eq_some_iff.mp H
     obtain ⟨h2, d2, H⟩ := H
     try dsimp only at H
     have h8 := am d2
     clear d2
     obtain rfl := Option.some.inj H
     have f4 := y5 a0
     go_wp2_with (first | ((with_reducible refine gC 27 ?_); refine gL 20 Try.func27 #[.agg #[.string a4, .string a5, .slice b0 a1.length b2, .int .i64 a3, .slice b1 a2.length b3], .int .i64 4] ?_; (with_reducible refine (Ff.calls b5 a4 a5 _ _ a1 a3 _ _ a2 4 false _ ?side1 ?side2 ?side3 ?side4 c7.out).mono ?_); (case side1 => exact (Kd.C_below a8.out (pB HB.out))); (case side2 => exact a6.out); (case side3 => exact (Kd.C_below a9.out (pB HB.out))); (case side4 => exact a7.out); rintro e j1 ⟨rfl, hb⟩; refine ⟨_, rfl, ?_⟩; replace a0 := kB a0 hb; replace HB := bS HB hb; (try clear hb); have f5 := y5 a0) | ((with_reducible refine gC 76 ?_); refine gL 30 Try.func76 #[.agg #[.string a4, .string a5, .slice b0 a1.length b2, .int .i64 a3, .slice b1 a2.length b3]] ?_; (with_reducible refine (Fs.calls b5 a4 a5 _ _ a1 a3 _ _ a2 true _ ?side1 ?side2 ?side3 ?side4 g3.out).mono ?_); (case side1 => exact (Kd.C_below a8.out (pB HB.out))); (case side2 => exact a6.out); (case side3 => exact (Kd.C_below a9.out (pB HB.out))); (case side4 => exact a7.out); rintro e j2 ⟨rfl, hb⟩; refine ⟨_, rfl, ?_⟩; replace a0 := kB a0 hb; replace HB := bS HB hb; (try clear hb); have f6 := y5 a0) | (go_at_call 27; (with_reducible refine (Ff.calls b5 a4 a5 _ _ a1 a3 _ _ a2 5 h2 _ ?side1 ?side2 ?side3 ?side4 h8.out).mono ?_); (case side1 => exact (Kd.C_below a8.out (pB HB.out))); (case side2 => exact a6.out); (case side3 => exact (Kd.C_below a9.out (pB HB.out))); (case side4 => exact a7.out); rintro e j3 ⟨rfl, hb⟩; replace a0 := kB a0 hb; replace HB := bS HB hb; (try clear hb)))
     go_ret
     exact ⟨er, pB HB.out⟩
    rw [if_neg d6] at H
    obtain ⟨d7, d8⟩ := qf d6
    obtain rfl := Option.some.inj H
    have f7 := y5 a0
    go_wp2_with (first | ((with_reducible refine gC 27 ?_); refine gL 20 Try.func27 #[.agg #[.string a4, .string a5, .slice b0 a1.length b2, .int .i64 a3, .slice b1 a2.length b3], .int .i64 4] ?_; (with_reducible refine (Ff.calls b5 a4 a5 _ _ a1 a3 _ _ a2 4 false _ ?side1 ?side2 ?side3 ?side4 c7.out).mono ?_); (case side1 => exact (Kd.C_below a8.out (pB HB.out))); (case side2 => exact a6.out); (case side3 => exact (Kd.C_below a9.out (pB HB.out))); (case side4 => exact a7.out); rintro e j4 ⟨rfl, hb⟩; refine ⟨_, rfl, ?_⟩; replace a0 := kB a0 hb; replace HB := bS HB hb; (try clear hb); have f8 := y5 a0) | ((with_reducible refine gC 76 ?_); refine gL 30 Try.func76 #[.agg #[.string a4, .string a5, .slice b0 a1.length b2, .int .i64 a3, .slice b1 a2.length b3]] ?_; (with_reducible refine (Fs.calls b5 a4 a5 _ _ a1 a3 _ _ a2 true _ ?side1 ?side2 ?side3 ?side4 g3.out).mono ?_); (case side1 => exact (Kd.C_below a8.out (pB HB.out))); (case side2 => exact a6.out); (case side3 => exact (Kd.C_below a9.out (pB HB.out))); (case side4 => exact a7.out); rintro e j5 ⟨rfl, hb⟩; refine ⟨_, rfl, ?_⟩; replace a0 := kB a0 hb; replace HB := bS HB hb; (try clear hb); have f9 := y5 a0))
    go_ret
    exact ⟨er, pB HB.out⟩
   replace e3 := Bool.eq_false_iff.mpr e3
   subst e3
   rw [if_neg (show ¬ (false = true) by decide)] at H
   try dsimp only at H
   obtain rfl := Option.some.inj H
   have g0 := y5 a0
   go_wp2_with (first | ((with_reducible refine gC 27 ?_); refine gL 20 Try.func27 #[.agg #[.string a4, .string a5, .slice b0 a1.length b2, .int .i64 a3, .slice b1 a2.length b3], .int .i64 4] ?_; (with_reducible refine (Ff.calls b5 a4 a5 _ _ a1 a3 _ _ a2 4 false _ ?side1 ?side2 ?side3 ?side4 c7.out).mono ?_); (case side1 => exact (Kd.C_below a8.out (pB HB.out))); (case side2 => exact a6.out); (case side3 => exact (Kd.C_below a9.out (pB HB.out))); (case side4 => exact a7.out); rintro e j6 ⟨rfl, hb⟩; refine ⟨_, rfl, ?_⟩; replace a0 := kB a0 hb; replace HB := bS HB hb; (try clear hb); have g1 := y5 a0) | ((with_reducible refine gC 76 ?_); refine gL 30 Try.func76 #[.agg #[.string a4, .string a5, .slice b0 a1.length b2, .int .i64 a3, .slice b1 a2.length b3]] ?_; (with_reducible refine (Fs.calls b5 a4 a5 _ _ a1 a3 _ _ a2 false _ ?side1 ?side2 ?side3 ?side4 g3.out).mono ?_); (case side1 => exact (Kd.C_below a8.out (pB HB.out))); (case side2 => exact a6.out); (case side3 => exact (Kd.C_below a9.out (pB HB.out))); (case side4 => exact a7.out); rintro e j7 ⟨rfl, hb⟩; refine ⟨_, rfl, ?_⟩; replace a0 := kB a0 hb; replace HB := bS HB hb; (try clear hb); have g2 := y5 a0))
   go_ret
   exact ⟨er, pB HB.out⟩
def Fg.j0 : Nat → Bool → Int → Int → Int → Int → ByteArray → Option (Bool)
 | 0, _, _, _, _, _, _ => none
 | k + 1, a5, a0, a3, a4, a1, a2 => if a5 = true then (some false) else (if a0 = 2 then (if a1 < 1 then (some false) else (if a0 = 3 then (some true) else (some (a2.toList == ([] : List UInt8))))) else (if a1 = 0 then (if a0 = 3 then (some true) else (some (a2.toList == ([] : List UInt8)))) else (some false)))
def Fg.f (k : Nat) (a0 : Int) (a1 : Int) (a2 : Int) (a3 : Int) (a4 : ByteArray) : Option (Bool) := if a0 < 0 then (Fg.j0 k true a0 a1 a2 a3 a4) else (if a0 > 5 then (Fg.j0 k true a0 a1 a2 a3 a4) else (if a1 < 0 then (Fg.j0 k true a0 a1 a2 a3 a4) else (if a1 > 8 then (Fg.j0 k true a0 a1 a2 a3 a4) else (if a2 < 0 then (Fg.j0 k true a0 a1 a2 a3 a4) else (if a2 > 1099511627776 then (Fg.j0 k true a0 a1 a2 a3 a4) else (if a3 > 1099511627776 then (Fg.j0 k true a0 a1 a2 a3 a4) else (Fg.j0 k (decide ((a4.size : Int) > 16)) a0 a1 a2 a3 a4)))))))
set_option maxHeartbeats 8000000 in
set_option maxRecDepth 100000 in
theorem Fg.calls (k : Nat) (a1 : Int) (a3 : Int) (a4 : Int) (a2 : Int) (a6 : ByteArray) (r : Bool) (w : World) (h : Fg.f k a1 a3 a4 a2 a6 = some r) :
  Calls Try.prog 77 #[.agg #[.int .i64 a1, .int .i64 a3, .int .i64 a4, .int .i64 a2, .string a6]] w fun e w' => e = .returned (.bool r) ∧ Below w.heap.size w w' := by
 have f8 := Try.underlying51
 have HB := am (Below.refl w.heap.size w)
 unfold Fg.f at h
 have H := h
 clear h
 have f1 := am H
 clear H
 go_enter Try.func77, Try.ntmps77
 go_upto_region 1 with (first | ((with_reducible refine gD 1 ?_); (try (refine q1e (by rfl) ?_; dsimp only)); refine bz 1 #[.int .i64 a1, .int .i64 a3, .int .i64 a4, .int .i64 a2, .string a6] 51 HB ?_; clear HB; intro d8 hg w3 hb a0 f7 HB; clear hb hg))
 (try simp only [Act.put, List.setIfInBounds_toArray, List.set_cons_zero, List.set_cons_succ])
 go_cut [41] (fun f9 wc => ∃ (kq : Nat) (a5 : Bool), f9 = .bool a5 ∧ q0f (Fg.j0 kq a5 a1 a3 a4 a2 a6 = some r) ∧ q0f (kq ≤ k) ∧ q0f (wc.heap[d8]? = some (.cells #[.int .i64 a1, .int .i64 a3, .int .i64 a4, .int .i64 a2, .string a6] 51 (0, 0))) ∧ q0f (Below w.heap.size w wc))
 case first =>
  have H := f1.out
  clear f1
  by_cases c4 : a1 < 0
  ·
   rw [if_pos c4] at H
   have a7 := decide_eq_true c4
   clear c4
   (first | rw [a7] | (simp only [q2r, q2u]; rw [a7]) | skip)
   have H' := am H
   clear H
   have f4 := y5 a0
   go_wp2
   go_meet
   case rel => exact ⟨_, (true), el, H', ol, ⟨pk a0.out⟩, ⟨pB HB.out⟩⟩
  rw [if_neg c4] at H
  have a7 := decide_eq_false c4
  clear c4
  (first | rw [a7] | (simp only [q2r, q2u]; rw [a7]) | skip)
  by_cases c6 : a1 > 5
  ·
   rw [if_pos c6] at H
   have f2 := decide_eq_true c6
   clear c6
   have H' := am H
   clear H
   have f5 := y5 a0
   go_wp2
   go_meet
   case rel => exact ⟨_, (true), el, H', ol, ⟨pk a0.out⟩, ⟨pB HB.out⟩⟩
  rw [if_neg c6] at H
  have f2 := decide_eq_false c6
  clear c6
  by_cases c8 : a3 < 0
  ·
   rw [if_pos c8] at H
   have f3 := decide_eq_true c8
   clear c8
   have H' := am H
   clear H
   have f6 := y5 a0
   go_wp2
   go_meet
   case rel => exact ⟨_, (true), el, H', ol, ⟨pk a0.out⟩, ⟨pB HB.out⟩⟩
  rw [if_neg c8] at H
  have f3 := decide_eq_false c8
  clear c8
  by_cases a8 : a3 > 8
  ·
   rw [if_pos a8] at H
   have b3 := decide_eq_true a8
   clear a8
   have H' := am H
   clear H
   have e0 := y5 a0
   go_wp2
   go_meet
   case rel => exact ⟨_, (true), el, H', ol, ⟨pk a0.out⟩, ⟨pB HB.out⟩⟩
  rw [if_neg a8] at H
  have b3 := decide_eq_false a8
  clear a8
  by_cases a9 : a4 < 0
  ·
   rw [if_pos a9] at H
   have b4 := decide_eq_true a9
   clear a9
   have H' := am H
   clear H
   have e1 := y5 a0
   go_wp2
   go_meet
   case rel => exact ⟨_, (true), el, H', ol, ⟨pk a0.out⟩, ⟨pB HB.out⟩⟩
  rw [if_neg a9] at H
  have b4 := decide_eq_false a9
  clear a9
  by_cases b0 : a4 > 1099511627776
  ·
   rw [if_pos b0] at H
   have b5 := decide_eq_true b0
   clear b0
   have H' := am H
   clear H
   have e2 := y5 a0
   go_wp2
   go_meet
   case rel => exact ⟨_, (true), el, H', ol, ⟨pk a0.out⟩, ⟨pB HB.out⟩⟩
  rw [if_neg b0] at H
  have b5 := decide_eq_false b0
  clear b0
  by_cases b1 : a2 > 1099511627776
  ·
   rw [if_pos b1] at H
   have b6 := decide_eq_true b1
   clear b1
   have H' := am H
   clear H
   have e3 := y5 a0
   go_wp2
   go_meet
   case rel => exact ⟨_, (true), el, H', ol, ⟨pk a0.out⟩, ⟨pB HB.out⟩⟩
  rw [if_neg b1] at H
  have b6 := decide_eq_false b1
  clear b1
  have H' := am H
  clear H
  have e4 := y5 a0
  go_wp2
  go_meet
  case rel => exact ⟨_, (decide ((a6.size : Int) > 16)), el, H', ol, ⟨pk a0.out⟩, ⟨pB HB.out⟩⟩
 case rest =>
  clear f1
  obtain ⟨kq, a5, rfl, HA, g0, a0, HB⟩ := hcut
  cases kq with
  | zero => exact absurd HA.out (by simp [Fg.j0])
  | succ g1 =>
   have H := HA.out
   clear HA
   simp only [Fg.j0] at H
   by_cases d9 : a5 = true
   ·
    subst d9
    rw [if_pos rfl] at H
    try dsimp only at H
    obtain rfl := Option.some.inj H
    go_wp2
    go_ret
    exact ⟨er, pB HB.out⟩
   replace d9 := Bool.eq_false_iff.mpr d9
   subst d9
   rw [if_neg (show ¬ (false = true) by decide)] at H
   try dsimp only at H
   by_cases b7 : a1 = 2
   ·
    rw [if_pos b7] at H
    obtain ⟨b8, b9⟩ := qt b7
    clear b7
    by_cases b2 : a2 < 1
    ·
     rw [if_pos b2] at H
     have c7 := decide_eq_true b2
     clear b2
     obtain rfl := Option.some.inj H
     have e5 := y5 a0
     go_wp2
     go_ret
     exact ⟨er, pB HB.out⟩
    rw [if_neg b2] at H
    have c7 := decide_eq_false b2
    clear b2
    by_cases c9 : a1 = 3
    ·
     rw [if_pos c9] at H
     obtain ⟨d0, d1⟩ := qt c9
     clear c9
     obtain rfl := Option.some.inj H
     have e6 := y5 a0
     go_wp2
     go_ret
     exact ⟨er, pB HB.out⟩
    rw [if_neg c9] at H
    obtain ⟨d0, d1⟩ := qf c9
    obtain rfl := Option.some.inj H
    have e7 := y5 a0
    go_wp2
    go_ret
    exact ⟨er, pB HB.out⟩
   rw [if_neg b7] at H
   obtain ⟨b8, b9⟩ := qf b7
   by_cases d2 : a2 = 0
   ·
    rw [if_pos d2] at H
    obtain ⟨d3, d4⟩ := qt d2
    clear d2
    by_cases d5 : a1 = 3
    ·
     rw [if_pos d5] at H
     obtain ⟨d6, d7⟩ := qt d5
     clear d5
     obtain rfl := Option.some.inj H
     have e8 := y5 a0
     go_wp2
     go_ret
     exact ⟨er, pB HB.out⟩
    rw [if_neg d5] at H
    obtain ⟨d6, d7⟩ := qf d5
    obtain rfl := Option.some.inj H
    have e9 := y5 a0
    go_wp2
    go_ret
    exact ⟨er, pB HB.out⟩
   rw [if_neg d2] at H
   obtain ⟨d3, d4⟩ := qf d2
   obtain rfl := Option.some.inj H
   have f0 := y5 a0
   go_wp2
   go_ret
   exact ⟨er, pB HB.out⟩
mutual
def Fd.j0 : Nat → Bool → List Int → Int → Int → Int → Int → Int → Int → Int → ByteArray → Option (Bool)
 | 0, _, _, _, _, _, _, _, _, _, _ => none
 | k + 1, a9, a3, a4, a5, a6, a0, a1, a2, a7, a8 => if a9 = true then (some false) else (if a0 = 0 then (if a1 = 0 then (Fd.j1 k (a2 != 0) a3 a4 a5 a6 a0 a1 a2 a7 a8) else (Fd.j1 k true a3 a4 a5 a6 a0 a1 a2 a7 a8)) else (Fd.j1 k false a3 a4 a5 a6 a0 a1 a2 a7 a8))
def Fd.j1 : Nat → Bool → List Int → Int → Int → Int → Int → Int → Int → Int → ByteArray → Option (Bool)
 | 0, _, _, _, _, _, _, _, _, _, _ => none
 | k + 1, a9, a3, a0, a4, a5, a1, a2, a6, a7, a8 => if a9 = true then (some false) else (if a1 = 1 then (Fd.j2 k (decide (a2 ≥ a0)) a3 a0 a4 a5 a1 a2 a6 a7 a8) else (Fd.j2 k false a3 a0 a4 a5 a1 a2 a6 a7 a8))
def Fd.j2 : Nat → Bool → List Int → Int → Int → Int → Int → Int → Int → Int → ByteArray → Option (Bool)
 | 0, _, _, _, _, _, _, _, _, _, _ => none
 | k + 1, a9, a2, a3, a4, a5, a0, a1, a6, a7, a8 => if a9 = true then (some false) else (if a0 = 2 then (Fd.j3 k (decide (a1 < 1)) a2 a3 a4 a5 a0 a1 a6 a7 a8) else (if a0 = 3 then (Fd.j3 k (decide (a1 < 1)) a2 a3 a4 a5 a0 a1 a6 a7 a8) else (Fd.j3 k false a2 a3 a4 a5 a0 a1 a6 a7 a8)))
def Fd.j3 : Nat → Bool → List Int → Int → Int → Int → Int → Int → Int → Int → ByteArray → Option (Bool)
 | 0, _, _, _, _, _, _, _, _, _, _ => none
 | k + 1, a9, a4, a2, a5, a6, a0, a3, a1, a7, a8 => if a9 = true then (some false) else (if a0 = 4 then (if a3 = a2 then (if a1 = 0 then (some true) else (if a0 = 1 then (some true) else (some (a0 == 2)))) else (some false)) else (if a1 = 0 then (some true) else (if a0 = 1 then (some true) else (some (a0 == 2)))))
end
def Fd.f (k : Nat) (a8 : List Int) (a1 : Int) (a6 : Int) (a7 : Int) (a2 : Int) (a0 : Int) (a3 : Int) (a4 : Int) (a5 : ByteArray) : Option (Bool) := (Fg.f k a2 a0 a3 a4 a5).bind fun a9 => (if a9 = true then (Fd.j0 k (decide (a0 > a1)) a8 a1 a6 a7 a2 a0 a3 a4 a5) else (Fd.j0 k true a8 a1 a6 a7 a2 a0 a3 a4 a5))
set_option maxHeartbeats 8000000 in
set_option maxRecDepth 100000 in
theorem Fd.calls (k : Nat) (b8 : Option Addr) (b9 : Nat) (a9 : List Int) (a8 : Int) (b0 : Int) (b1 : Int) (a3 : Int) (a4 : Int) (a5 : Int) (a6 : Int) (a7 : ByteArray) (r : Bool) (w : World) (d3 : Kd.C (Kd.int .i64) w b8 a9.length a9) (d2 : a9.length ≤ b9) (h : Fd.f k a9 a8 b0 b1 a3 a4 a5 a6 a7 = some r) :
  Calls Try.prog 40 #[.agg #[.slice b8 a9.length b9, .int .i64 a8, .int .i64 b0, .int .i64 b1], .agg #[.int .i64 a3, .int .i64 a4, .int .i64 a5, .int .i64 a6, .string a7]] w fun e w' => e = .returned (.bool r) ∧ Below w.heap.size w w' := by
 have m9 := Try.underlying49
 have n0 := Try.underlying51
 have l0 := am d3
 have k9 := am d2
 clear d3 d2
 have HB := am (Below.refl w.heap.size w)
 unfold Fd.f at h
 have H := h
 clear h
 have k1 := am H
 clear H
 go_enter Try.func40, Try.ntmps40
 go_upto_region 1 with (first | ((with_reducible refine gD 2 ?_); refine bz 2 #[.slice b8 a9.length b9, .int .i64 a8, .int .i64 b0, .int .i64 b1] 49 HB ?_; clear HB; intro c6 hg w4 hb a2 k7 HB; clear hb hg) | ((with_reducible refine gD 3 ?_); refine bz 3 #[.int .i64 a3, .int .i64 a4, .int .i64 a5, .int .i64 a6, .string a7] 51 HB ?_; clear HB; intro c8 hg w5 hb a1 k8 HB; have d9 := nL hg a2; have a0 := nG hg a2; replace a2 := kB a2 hb; clear hb hg))
 (try simp only [Act.put, List.setIfInBounds_toArray, List.set_cons_zero, List.set_cons_succ])
 go_cut [14] (fun n3 wc => ∃ (kq : Nat) (c9 : Bool), n3 = .bool c9 ∧ q0f (Fd.j0 kq c9 a9 a8 b0 b1 a3 a4 a5 a6 a7 = some r) ∧ q0f (kq ≤ k) ∧ q0f (wc.heap[c6]? = some (.cells #[(.slice b8 a9.length b9), .int .i64 a8, .int .i64 b0, .int .i64 b1] 49 (0, 0))) ∧ q0f (wc.heap[c8]? = some (.cells #[.int .i64 a3, .int .i64 a4, .int .i64 a5, .int .i64 a6, .string a7] 51 (0, 0))) ∧ q0f (Below w.heap.size w wc))
 case first =>
  have H := k1.out
  clear k1
  replace H := Option.bind_eq_some_iff.mp H
  obtain ⟨k5, k6, H⟩ := H
  try dsimp only at H
  have A6 := am k6
  clear k6
  by_cases c7 : k5 = true
  ·
   subst c7
   rw [if_pos rfl] at H
   try dsimp only at H
   have H' := am H
   clear H
   have m8 := nn a0
   have k2 := y5 a1
   go_wp2_with (first | ((with_reducible refine gC 77 ?_); refine gL 6 Try.func77 #[.agg #[.int .i64 a3, .int .i64 a4, .int .i64 a5, .int .i64 a6, .string a7]] ?_; (with_reducible refine (Fg.calls k a3 a4 a5 a6 a7 true _ A6.out).mono ?_); rintro e n7 ⟨rfl, hb⟩; refine ⟨_, rfl, ?_⟩; replace a2 := kB a2 hb; replace a1 := kB a1 hb; replace HB := bS HB hb; (try clear hb); have h4 := y5 a1; have h5 := y4 a2))
   go_meet
   case rel => exact ⟨_, (decide (a4 > a8)), el, H', ol, ⟨pk a2.out⟩, ⟨pk a1.out⟩, ⟨pB HB.out⟩⟩
  replace c7 := Bool.eq_false_iff.mpr c7
  subst c7
  rw [if_neg (show ¬ (false = true) by decide)] at H
  try dsimp only at H
  have H' := am H
  clear H
  have l1 := nn a0
  have h6 := y5 a1
  go_wp2_with (first | ((with_reducible refine gC 77 ?_); refine gL 6 Try.func77 #[.agg #[.int .i64 a3, .int .i64 a4, .int .i64 a5, .int .i64 a6, .string a7]] ?_; (with_reducible refine (Fg.calls k a3 a4 a5 a6 a7 false _ A6.out).mono ?_); rintro e n8 ⟨rfl, hb⟩; refine ⟨_, rfl, ?_⟩; replace a2 := kB a2 hb; replace a1 := kB a1 hb; replace HB := bS HB hb; (try clear hb)))
  go_meet
  case rel => exact ⟨_, (true), el, H', ol, ⟨pk a2.out⟩, ⟨pk a1.out⟩, ⟨pB HB.out⟩⟩
 case rest =>
  clear k1
  obtain ⟨kq, c9, rfl, HA, d1, a2, a1, HB⟩ := hcut
  cases kq with
  | zero => exact absurd HA.out (by simp [Fd.j0])
  | succ n1 =>
   have H := HA.out
   clear HA
   simp only [Fd.j0] at H
   by_cases d8 : c9 = true
   ·
    subst d8
    rw [if_pos rfl] at H
    try dsimp only at H
    obtain rfl := Option.some.inj H
    go_wp2
    go_ret
    exact ⟨er, pB HB.out⟩
   replace d8 := Bool.eq_false_iff.mpr d8
   subst d8
   rw [if_neg (show ¬ (false = true) by decide)] at H
   try dsimp only at H
   have d4 := am H
   clear H
   go_upto_region 3 with (fail)
   go_cut [27] (fun n4 wc => ∃ (kq : Nat) (b2 : Bool), n4 = .bool b2 ∧ q0f (Fd.j1 kq b2 a9 a8 b0 b1 a3 a4 a5 a6 a7 = some r) ∧ q0f (kq ≤ n1) ∧ q0f (wc.heap[c6]? = some (.cells #[(.slice b8 a9.length b9), .int .i64 a8, .int .i64 b0, .int .i64 b1] 49 (0, 0))) ∧ q0f (wc.heap[c8]? = some (.cells #[.int .i64 a3, .int .i64 a4, .int .i64 a5, .int .i64 a6, .string a7] 51 (0, 0))) ∧ q0f (Below w.heap.size w wc))
   case first =>
    have H := d4.out
    clear d4
    by_cases e1 : a3 = 0
    ·
     rw [if_pos e1] at H
     obtain ⟨b5, e2⟩ := qt e1
     clear e1
     (first | rw [b5] | (simp only [q2r, q2u]; rw [b5]) | skip)
     by_cases e3 : a4 = 0
     ·
      rw [if_pos e3] at H
      obtain ⟨e4, e5⟩ := qt e3
      clear e3
      have H' := am H
      clear H
      have l2 := nn a0
      have h7 := y5 a1
      go_wp2
      go_meet
      case rel => exact ⟨_, ((a5 != 0)), el, H', ⟨by have := d1.out; first | omega | exact Nat.le_refl _⟩, ⟨pk a2.out⟩, ⟨pk a1.out⟩, ⟨pB HB.out⟩⟩
     rw [if_neg e3] at H
     obtain ⟨e4, e5⟩ := qf e3
     have H' := am H
     clear H
     have l3 := nn a0
     have h8 := y5 a1
     go_wp2
     go_meet
     case rel => exact ⟨_, (true), el, H', ⟨by have := d1.out; first | omega | exact Nat.le_refl _⟩, ⟨pk a2.out⟩, ⟨pk a1.out⟩, ⟨pB HB.out⟩⟩
    rw [if_neg e1] at H
    obtain ⟨b5, e2⟩ := qf e1
    (first | rw [b5] | (simp only [q2r, q2u]; rw [b5]) | skip)
    have H' := am H
    clear H
    have l4 := nn a0
    have h9 := y5 a1
    go_wp2
    go_meet
    case rel => exact ⟨_, (false), el, H', ⟨by have := d1.out; first | omega | exact Nat.le_refl _⟩, ⟨pk a2.out⟩, ⟨pk a1.out⟩, ⟨pB HB.out⟩⟩
   case rest =>
    clear d4
    try clear d8
    obtain ⟨kq, b2, rfl, HA, d0, a2, a1, HB⟩ := hcut
    cases kq with
    | zero => exact absurd HA.out (by simp [Fd.j1])
    | succ k3 =>
     have H := HA.out
     clear HA
     simp only [Fd.j1] at H
     by_cases e0 : b2 = true
     ·
      subst e0
      rw [if_pos rfl] at H
      try dsimp only at H
      obtain rfl := Option.some.inj H
      go_wp2
      go_ret
      exact ⟨er, pB HB.out⟩
     replace e0 := Bool.eq_false_iff.mpr e0
     subst e0
     rw [if_neg (show ¬ (false = true) by decide)] at H
     try dsimp only at H
     have d5 := am H
     clear H
     go_upto_region 5 with (fail)
     go_cut [37] (fun n5 wc => ∃ (kq : Nat) (b3 : Bool), n5 = .bool b3 ∧ q0f (Fd.j2 kq b3 a9 a8 b0 b1 a3 a4 a5 a6 a7 = some r) ∧ q0f (kq ≤ k3) ∧ q0f (wc.heap[c6]? = some (.cells #[(.slice b8 a9.length b9), .int .i64 a8, .int .i64 b0, .int .i64 b1] 49 (0, 0))) ∧ q0f (wc.heap[c8]? = some (.cells #[.int .i64 a3, .int .i64 a4, .int .i64 a5, .int .i64 a6, .string a7] 51 (0, 0))) ∧ q0f (Below w.heap.size w wc))
     case first =>
      have H := d5.out
      clear d5
      by_cases e6 : a3 = 1
      ·
       rw [if_pos e6] at H
       obtain ⟨b6, e7⟩ := qt e6
       clear e6
       (first | rw [b6] | (simp only [q2r, q2u]; rw [b6]) | skip)
       have H' := am H
       clear H
       have l5 := nn a0
       have i0 := y5 a1
       have i1 := y4 a2
       go_wp2
       go_meet
       case rel => exact ⟨_, (decide (a4 ≥ a8)), el, H', ⟨by have := d1.out; have := d0.out; first | omega | exact Nat.le_refl _⟩, ⟨pk a2.out⟩, ⟨pk a1.out⟩, ⟨pB HB.out⟩⟩
      rw [if_neg e6] at H
      obtain ⟨b6, e7⟩ := qf e6
      (first | rw [b6] | (simp only [q2r, q2u]; rw [b6]) | skip)
      have H' := am H
      clear H
      have l6 := nn a0
      have i2 := y5 a1
      go_wp2
      go_meet
      case rel => exact ⟨_, (false), el, H', ⟨by have := d1.out; have := d0.out; first | omega | exact Nat.le_refl _⟩, ⟨pk a2.out⟩, ⟨pk a1.out⟩, ⟨pB HB.out⟩⟩
     case rest =>
      clear d5
      try clear d8
      try clear e0
      obtain ⟨kq, b3, rfl, HA, d7, a2, a1, HB⟩ := hcut
      cases kq with
      | zero => exact absurd HA.out (by simp [Fd.j2])
      | succ k4 =>
       have H := HA.out
       clear HA
       simp only [Fd.j2] at H
       by_cases e8 : b3 = true
       ·
        subst e8
        rw [if_pos rfl] at H
        try dsimp only at H
        obtain rfl := Option.some.inj H
        go_wp2
        go_ret
        exact ⟨er, pB HB.out⟩
       replace e8 := Bool.eq_false_iff.mpr e8
       subst e8
       rw [if_neg (show ¬ (false = true) by decide)] at H
       try dsimp only at H
       have d6 := am H
       clear H
       go_upto_region 7 with (fail)
       go_cut [50] (fun n6 wc => ∃ (kq : Nat) (b4 : Bool), n6 = .bool b4 ∧ q0f (Fd.j3 kq b4 a9 a8 b0 b1 a3 a4 a5 a6 a7 = some r) ∧ q0f (kq ≤ k4) ∧ q0f (wc.heap[c6]? = some (.cells #[(.slice b8 a9.length b9), .int .i64 a8, .int .i64 b0, .int .i64 b1] 49 (0, 0))) ∧ q0f (wc.heap[c8]? = some (.cells #[.int .i64 a3, .int .i64 a4, .int .i64 a5, .int .i64 a6, .string a7] 51 (0, 0))) ∧ q0f (Below w.heap.size w wc))
       case first =>
        have H := d6.out
        clear d6
        by_cases e9 : a3 = 2
        ·
         rw [if_pos e9] at H
         obtain ⟨b7, f0⟩ := qt e9
         clear e9
         (first | rw [b7] | (simp only [q2r, q2u]; rw [b7]) | skip)
         have H' := am H
         clear H
         have l7 := nn a0
         have i3 := y5 a1
         go_wp2
         go_meet
         case rel => exact ⟨_, (decide (a4 < 1)), el, H', ⟨by have := d1.out; have := d0.out; have := d7.out; first | omega | exact Nat.le_refl _⟩, ⟨pk a2.out⟩, ⟨pk a1.out⟩, ⟨pB HB.out⟩⟩
        rw [if_neg e9] at H
        obtain ⟨b7, f0⟩ := qf e9
        (first | rw [b7] | (simp only [q2r, q2u]; rw [b7]) | skip)
        by_cases f1 : a3 = 3
        ·
         rw [if_pos f1] at H
         obtain ⟨f2, f3⟩ := qt f1
         clear f1
         have H' := am H
         clear H
         have l8 := nn a0
         have i4 := y5 a1
         go_wp2
         go_meet
         case rel => exact ⟨_, (decide (a4 < 1)), el, H', ⟨by have := d1.out; have := d0.out; have := d7.out; first | omega | exact Nat.le_refl _⟩, ⟨pk a2.out⟩, ⟨pk a1.out⟩, ⟨pB HB.out⟩⟩
        rw [if_neg f1] at H
        obtain ⟨f2, f3⟩ := qf f1
        have H' := am H
        clear H
        have l9 := nn a0
        have i5 := y5 a1
        go_wp2
        go_meet
        case rel => exact ⟨_, (false), el, H', ⟨by have := d1.out; have := d0.out; have := d7.out; first | omega | exact Nat.le_refl _⟩, ⟨pk a2.out⟩, ⟨pk a1.out⟩, ⟨pB HB.out⟩⟩
       case rest =>
        clear d6
        try clear d8
        try clear e0
        try clear e8
        obtain ⟨kq, b4, rfl, HA, m7, a2, a1, HB⟩ := hcut
        cases kq with
        | zero => exact absurd HA.out (by simp [Fd.j3])
        | succ n2 =>
         have H := HA.out
         clear HA
         simp only [Fd.j3] at H
         by_cases h3 : b4 = true
         ·
          subst h3
          rw [if_pos rfl] at H
          try dsimp only at H
          obtain rfl := Option.some.inj H
          go_wp2
          go_ret
          exact ⟨er, pB HB.out⟩
         replace h3 := Bool.eq_false_iff.mpr h3
         subst h3
         rw [if_neg (show ¬ (false = true) by decide)] at H
         try dsimp only at H
         by_cases f4 : a3 = 4
         ·
          rw [if_pos f4] at H
          obtain ⟨f5, f6⟩ := qt f4
          clear f4
          by_cases f7 : a4 = a8
          ·
           rw [if_pos f7] at H
           obtain ⟨f8, f9⟩ := qt f7
           clear f7
           by_cases g0 : a5 = 0
           ·
            rw [if_pos g0] at H
            obtain ⟨g1, g2⟩ := qt g0
            clear g0
            obtain rfl := Option.some.inj H
            have m0 := nn a0
            have i6 := y5 a1
            have i7 := y4 a2
            go_wp2
            go_ret
            exact ⟨er, pB HB.out⟩
           rw [if_neg g0] at H
           obtain ⟨g1, g2⟩ := qf g0
           by_cases g3 : a3 = 1
           ·
            rw [if_pos g3] at H
            obtain ⟨g4, g5⟩ := qt g3
            clear g3
            obtain rfl := Option.some.inj H
            have m1 := nn a0
            have i8 := y5 a1
            have i9 := y4 a2
            go_wp2
            go_ret
            exact ⟨er, pB HB.out⟩
           rw [if_neg g3] at H
           obtain ⟨g4, g5⟩ := qf g3
           obtain rfl := Option.some.inj H
           have m2 := nn a0
           have j4 := y5 a1
           have j5 := y4 a2
           go_wp2
           go_ret
           exact ⟨er, pB HB.out⟩
          rw [if_neg f7] at H
          obtain ⟨f8, f9⟩ := qf f7
          obtain rfl := Option.some.inj H
          have m3 := nn a0
          have j6 := y5 a1
          have j7 := y4 a2
          go_wp2
          go_ret
          exact ⟨er, pB HB.out⟩
         rw [if_neg f4] at H
         obtain ⟨f5, f6⟩ := qf f4
         by_cases g6 : a5 = 0
         ·
          rw [if_pos g6] at H
          obtain ⟨g7, g8⟩ := qt g6
          clear g6
          obtain rfl := Option.some.inj H
          have m4 := nn a0
          have j8 := y5 a1
          go_wp2
          go_ret
          exact ⟨er, pB HB.out⟩
         rw [if_neg g6] at H
         obtain ⟨g7, g8⟩ := qf g6
         by_cases g9 : a3 = 1
         ·
          rw [if_pos g9] at H
          obtain ⟨h0, h2⟩ := qt g9
          clear g9
          obtain rfl := Option.some.inj H
          have m5 := nn a0
          have j9 := y5 a1
          go_wp2
          go_ret
          exact ⟨er, pB HB.out⟩
         rw [if_neg g9] at H
         obtain ⟨h0, h2⟩ := qf g9
         obtain rfl := Option.some.inj H
         have m6 := nn a0
         have k0 := y5 a1
         go_wp2
         go_ret
         exact ⟨er, pB HB.out⟩
end Go.Proofs.Ytabmkighhmchmaa.X
