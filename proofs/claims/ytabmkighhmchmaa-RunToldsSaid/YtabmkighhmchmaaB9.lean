/- Words and walks for the law RunTolds, joined and made small by a program of mine. -/
import Derived.Test.YtabmkighhmchmaaB2
import Derived.Test.YtabmkighhmchmaaB8
namespace Go.Proofs.Ytabmkighhmchmaa.X
open Go.RowKit Go.YW.PrintWords Go.YW.PrintLast Go.YW.PrintMore Go.YW.Sq
attribute [local go_sem] q1a q0x q1d q1c q0t q0s q0y q0w
set_option linter.unusedVariables false
set_option linter.unusedSimpArgs false
mutual
def Ff.j0 : Nat → List Int → Int → Option (Int)
 | 0, _, _ => none
 | k + 1, x1, x5 => Ff.l0 k x5 x1 (x1.length : Int) 0
def Ff.l0 : Nat → Int → List Int → Int → Int → Option (Int)
 | 0, _, _, _, _ => none
 | k + 1, x5, a1, a2, a0 => if a0 < a2 then (if 0 ≤ a0 then (if a0 < (a1.length : Int) then (if x5 ≥ 1099511627776 then (Ff.j2 k x5 (rd a1 a0) a1 a2 a0 true) else (Ff.j2 k x5 (rd a1 a0) a1 a2 a0 (decide ((rd a1 a0) ≥ 1099511627776)))) else (none)) else (none)) else (if x5 > 1099511627776 then (some 1099511627776) else (some x5))
def Ff.j2 : Nat → Int → Int → List Int → Int → Int → Bool → Option (Int)
 | 0, _, _, _, _, _, _ => none
 | k + 1, x5, x7, a0, a1, a2, a3 => if a3 = true then (some 1099511627776) else (if x7 > 0 then (Ff.l0 k (wrap64 (x5 + x7)) a0 a1 (wrap64 (a2 + 1))) else (Ff.l0 k x5 a0 a1 (wrap64 (a2 + 1))))
end
def Ff.f (k : Nat) (a0 : Int) (l1 : List Int) : Option (Int) := if a0 > 0 then (Ff.j0 k l1 a0) else (Ff.j0 k l1 0)
set_option maxHeartbeats 8000000 in
set_option maxRecDepth 100000 in
theorem Ff.calls (k : Nat) (a0 : Int) (A1 : Option Addr) (c1 : Nat) (l1 : List Int) (r : Int) (w : World) (d4 : Kd.C (Kd.int .i64) w A1 l1.length l1) (d3 : l1.length ≤ c1) (h : Ff.f k a0 l1 = some r) :
  Calls Try.prog 84 #[.int .i64 a0, .slice A1 l1.length c1] w fun e w' => e = .returned (.int .i64 r) ∧ q0r w w' := by
 have d7 := am d4
 have e0 := am d3
 clear d4 d3
 unfold Ff.f at h
 have H := h
 clear h
 have b8 := am H
 clear H
 go_enter Try.func84, Try.ntmps84
 go_upto_if 9 with (fail)
 go_cut [5] (fun v5 wc => ∃ (kq : Nat) (a2 : Int), v5 = .int .i64 a2 ∧ q0e (Ff.j0 kq l1 a2 = some r) ∧ q0e (kq ≤ k) ∧ q0r w wc)
 case first =>
  have H := b8.out
  clear b8
  by_cases c4 : a0 > 0
  ·
   rw [if_pos c4] at H
   have a4 := decide_eq_true c4
   clear c4
   (first | rw [a4] | (simp only [q1x, q2b]; rw [a4]) | skip)
   have H' := am H
   clear H
   go_wp2
   go_meet
   case rel => exact ⟨_, (a0), el, H', ol, by repeat (first | exact q0r.refl _ | apply q0r.step)⟩
  rw [if_neg c4] at H
  have a4 := decide_eq_false c4
  clear c4
  (first | rw [a4] | (simp only [q1x, q2b]; rw [a4]) | skip)
  have H' := am H
  clear H
  go_wp2
  go_meet
  case rel => exact ⟨_, (0), el, H', ol, by repeat (first | exact q0r.refl _ | apply q0r.step)⟩
 case rest =>
  clear b8
  try clear c1
  obtain ⟨kq, a2, rfl, HA, a9, ⟨e1, rfl⟩⟩ := hcut
  cases kq with
  | zero => exact absurd HA.out (by simp [Ff.j0])
  | succ d5 =>
   have H := HA.out
   clear HA
   simp only [Ff.j0] at H
   have H' := am H
   clear H
   go_wp2
   go_loopg [5, 13] d5 (fun kq v5 d8 w' => ∃ (a2 : Int) (a1 : Int), v5 = .int .i64 a2 ∧ d8 = .int .i64 a1 ∧ q0e (Ff.l0 kq a2 l1 (l1.length : Int) a1 = some r) ∧ q0e (kq ≤ d5) ∧ q0r w w')
   case atStart => exact ⟨(a2), (0), el, el, H', ⟨Nat.le_refl _⟩, by repeat (first | exact q0r.refl _ | apply q0r.step)⟩
   case round =>
    clear H'
    try clear c1
    obtain ⟨a2, a1, rfl, rfl, HA, b0, ⟨m2, rfl⟩⟩ := hrel
    cases gk with
    | zero => exact absurd HA.out (by simp [Ff.l0])
    | succ k2 =>
     have H := HA.out
     clear HA
     simp only [Ff.l0] at H
     by_cases c5 : a1 < (l1.length : Int)
     ·
      rw [if_pos c5] at H
      have b5 := decide_eq_true c5
      clear c5
      by_cases c6 : 0 ≤ a1
      ·
       rw [if_pos c6] at H
       have c8 := decide_eq_true c6
       clear c6
       by_cases c7 : a1 < (l1.length : Int)
       ·
        rw [if_pos c7] at H
        have d0 := decide_eq_true c7
        clear c7
        have b9 := am H
        clear H
        have a7 : 0 ≤ (a1 : Int) := od
        have a8 : a1 < (l1.length : Int) := od
        obtain ⟨d2, d1, a6⟩ := Kd.at_int d7.out a1 a7 a8
        cases d1
        replace a7 := eq_true a7
        replace a8 := eq_true a8
        go_upto_region 7 with (fail)
        go_cut [22] (fun d9 wc => ∃ (kq : Nat) (a3 : Bool), d9 = .bool a3 ∧ q0e (Ff.j2 kq a2 (rd l1 a1) l1 (l1.length : Int) a1 a3 = some r) ∧ q0e (kq ≤ k2) ∧ q0r w wc)
        case first =>
         have H := b9.out
         clear b9
         by_cases c9 : a2 ≥ 1099511627776
         ·
          rw [if_pos c9] at H
          have a5 := decide_eq_true c9
          clear c9
          (first | rw [a5] | (simp only [q1x, q2b]; rw [a5]) | skip)
          have H' := am H
          clear H
          go_wp2
          go_meet
          case rel => exact ⟨_, (true), el, H', ⟨by have := a9.out; have := b0.out; first | omega | exact Nat.le_refl _⟩, by repeat (first | exact q0r.refl _ | apply q0r.step)⟩
         rw [if_neg c9] at H
         have a5 := decide_eq_false c9
         clear c9
         (first | rw [a5] | (simp only [q1x, q2b]; rw [a5]) | skip)
         have H' := am H
         clear H
         go_wp2
         go_meet
         case rel => exact ⟨_, (decide ((rd l1 a1) ≥ 1099511627776)), el, H', ⟨by have := a9.out; have := b0.out; first | omega | exact Nat.le_refl _⟩, by repeat (first | exact q0r.refl _ | apply q0r.step)⟩
        case rest =>
         clear b9
         try clear c1
         try clear c5
         try clear b5
         try clear c6
         try clear c8
         try clear c7
         try clear d0
         try clear a6
         try clear a7
         try clear a8
         obtain ⟨kq, a3, rfl, HA, b6, ⟨e2, rfl⟩⟩ := hcut
         cases kq with
         | zero => exact absurd HA.out (by simp [Ff.j2])
         | succ d6 =>
          have H := HA.out
          clear HA
          simp only [Ff.j2] at H
          by_cases b7 : a3 = true
          ·
           subst b7
           rw [if_pos rfl] at H
           try dsimp only at H
           obtain rfl := Option.some.inj H
           go_wp2
           go_ret
           exact ⟨by first | rfl | (simp; done) | (simp [*]; done), by repeat (first | exact q0r.refl _ | apply q0r.step)⟩
          replace b7 := Bool.eq_false_iff.mpr b7
          subst b7
          rw [if_neg (show ¬ (false = true) by decide)] at H
          try dsimp only at H
          by_cases b1 : (rd l1 a1) > 0
          ·
           rw [if_pos b1] at H
           have b3 := decide_eq_true b1
           clear b1
           have H' := am H
           clear H
           go_wp2
           go_roundg d6
           case measure => have := a9.out; have := b0.out; have := b6.out; omega
           case rel => exact ⟨(wrap64 (a2 + (rd l1 a1))), (wrap64 (a1 + 1)), el, el, H', ⟨by have := a9.out; have := b0.out; have := b6.out; omega⟩, by repeat (first | exact q0r.refl _ | apply q0r.step)⟩
          rw [if_neg b1] at H
          have b3 := decide_eq_false b1
          clear b1
          have H' := am H
          clear H
          go_wp2
          go_roundg d6
          case measure => have := a9.out; have := b0.out; have := b6.out; omega
          case rel => exact ⟨(a2), (wrap64 (a1 + 1)), el, el, H', ⟨by have := a9.out; have := b0.out; have := b6.out; omega⟩, by repeat (first | exact q0r.refl _ | apply q0r.step)⟩
       rw [if_neg c7] at H
       exact absurd H (by simp)
      rw [if_neg c6] at H
      exact absurd H (by simp)
     rw [if_neg c5] at H
     have b5 := decide_eq_false c5
     clear c5
     by_cases b2 : a2 > 1099511627776
     ·
      rw [if_pos b2] at H
      have b4 := decide_eq_true b2
      clear b2
      obtain rfl := Option.some.inj H
      go_wp2
      go_ret
      exact ⟨by first | rfl | (simp; done) | (simp [*]; done), by repeat (first | exact q0r.refl _ | apply q0r.step)⟩
     rw [if_neg b2] at H
     have b4 := decide_eq_false b2
     clear b2
     obtain rfl := Option.some.inj H
     go_wp2
     go_ret
     exact ⟨by first | rfl | (simp; done) | (simp [*]; done), by repeat (first | exact q0r.refl _ | apply q0r.step)⟩
mutual
def Fh.j0 : Nat → Int → Int → Bool → Option (Int)
 | 0, _, _, _ => none
 | k + 1, x0, x1, a0 => if a0 = true then (some 0) else (if x0 ≥ 1048576 then (Fh.j1 k x0 x1 true) else (Fh.j1 k x0 x1 (decide (x1 > 40))))
def Fh.j1 : Nat → Int → Int → Bool → Option (Int)
 | 0, _, _, _ => none
 | k + 1, x0, x1, a0 => if a0 = true then (some 1048576) else (Fh.l0 k x0 x1 1)
def Fh.l0 : Nat → Int → Int → Int → Option (Int)
 | 0, _, _, _ => none
 | k + 1, x0, x1, x5 => if x5 < x1 then (Fh.l0 k (wrap64 (2 * x0)) x1 (wrap64 (x5 + 1))) else (if x0 > 1048576 then (some 1048576) else (some x0))
end
def Fh.f (k : Nat) (a0 : Int) (a1 : Int) : Option (Int) := if a0 < 1 then (Fh.j0 k a0 a1 true) else (Fh.j0 k a0 a1 (decide (a1 < 1)))
set_option maxHeartbeats 8000000 in
set_option maxRecDepth 100000 in
theorem Fh.calls (k : Nat) (a0 : Int) (a1 : Int) (r : Int) (w : World) (h : Fh.f k a0 a1 = some r) :
  Calls Try.prog 85 #[.int .i64 a0, .int .i64 a1] w fun e w' => e = .returned (.int .i64 r) ∧ q0r w w' := by
 unfold Fh.f at h
 have H := h
 clear h
 have b1 := am H
 clear H
 go_enter Try.func85, Try.ntmps85
 go_upto_region 1 with (fail)
 go_cut [11] (fun b8 wc => ∃ (kq : Nat) (a2 : Bool), b8 = .bool a2 ∧ q0e (Fh.j0 kq a0 a1 a2 = some r) ∧ q0e (kq ≤ k) ∧ q0r w wc)
 case first =>
  have H := b1.out
  clear b1
  by_cases c4 : a0 < 1
  ·
   rw [if_pos c4] at H
   have a4 := decide_eq_true c4
   clear c4
   (first | rw [a4] | (simp only [q1x, q2b]; rw [a4]) | skip)
   have H' := am H
   clear H
   go_wp2
   go_meet
   case rel => exact ⟨_, (true), el, H', ol, by repeat (first | exact q0r.refl _ | apply q0r.step)⟩
  rw [if_neg c4] at H
  have a4 := decide_eq_false c4
  clear c4
  (first | rw [a4] | (simp only [q1x, q2b]; rw [a4]) | skip)
  have H' := am H
  clear H
  go_wp2
  go_meet
  case rel => exact ⟨_, (decide (a1 < 1)), el, H', ol, by repeat (first | exact q0r.refl _ | apply q0r.step)⟩
 case rest =>
  clear b1
  obtain ⟨kq, a2, rfl, HA, b0, ⟨c6, rfl⟩⟩ := hcut
  cases kq with
  | zero => exact absurd HA.out (by simp [Fh.j0])
  | succ b7 =>
   have H := HA.out
   clear HA
   simp only [Fh.j0] at H
   by_cases c5 : a2 = true
   ·
    subst c5
    rw [if_pos rfl] at H
    try dsimp only at H
    obtain rfl := Option.some.inj H
    go_wp2
    go_ret
    exact ⟨by first | rfl | (simp; done) | (simp [*]; done), by repeat (first | exact q0r.refl _ | apply q0r.step)⟩
   replace c5 := Bool.eq_false_iff.mpr c5
   subst c5
   rw [if_neg (show ¬ (false = true) by decide)] at H
   try dsimp only at H
   have b2 := am H
   clear H
   go_upto_region 3 with (fail)
   go_cut [17] (fun b9 wc => ∃ (kq : Nat) (a3 : Bool), b9 = .bool a3 ∧ q0e (Fh.j1 kq a0 a1 a3 = some r) ∧ q0e (kq ≤ b7) ∧ q0r w wc)
   case first =>
    have H := b2.out
    clear b2
    by_cases c7 : a0 ≥ 1048576
    ·
     rw [if_pos c7] at H
     have a5 := decide_eq_true c7
     clear c7
     (first | rw [a5] | (simp only [q1x, q2b]; rw [a5]) | skip)
     have H' := am H
     clear H
     go_wp2
     go_meet
     case rel => exact ⟨_, (true), el, H', ⟨by have := b0.out; first | omega | exact Nat.le_refl _⟩, by repeat (first | exact q0r.refl _ | apply q0r.step)⟩
    rw [if_neg c7] at H
    have a5 := decide_eq_false c7
    clear c7
    (first | rw [a5] | (simp only [q1x, q2b]; rw [a5]) | skip)
    have H' := am H
    clear H
    go_wp2
    go_meet
    case rel => exact ⟨_, (decide (a1 > 40)), el, H', ⟨by have := b0.out; first | omega | exact Nat.le_refl _⟩, by repeat (first | exact q0r.refl _ | apply q0r.step)⟩
   case rest =>
    clear b2
    try clear c5
    obtain ⟨kq, a3, rfl, HA, b4, ⟨d0, rfl⟩⟩ := hcut
    cases kq with
    | zero => exact absurd HA.out (by simp [Fh.j1])
    | succ b6 =>
     have H := HA.out
     clear HA
     simp only [Fh.j1] at H
     by_cases c8 : a3 = true
     ·
      subst c8
      rw [if_pos rfl] at H
      try dsimp only at H
      obtain rfl := Option.some.inj H
      go_wp2
      go_ret
      exact ⟨by first | rfl | (simp; done) | (simp [*]; done), by repeat (first | exact q0r.refl _ | apply q0r.step)⟩
     replace c8 := Bool.eq_false_iff.mpr c8
     subst c8
     rw [if_neg (show ¬ (false = true) by decide)] at H
     try dsimp only at H
     have H' := am H
     clear H
     go_wp2
     go_loopg [0, 5] b6 (fun kq v0 v5 w' => ∃ (a6 : Int) (a7 : Int), v0 = .int .i64 a6 ∧ v5 = .int .i64 a7 ∧ q0e (Fh.l0 kq a6 a1 a7 = some r) ∧ q0e (kq ≤ b6) ∧ q0r w w')
     case atStart => exact ⟨(a0), (1), el, el, H', ⟨Nat.le_refl _⟩, by repeat (first | exact q0r.refl _ | apply q0r.step)⟩
     case round =>
      clear H'
      try clear c5
      try clear c8
      obtain ⟨a6, a7, rfl, rfl, HA, b5, ⟨m3, rfl⟩⟩ := hrel
      cases gk with
      | zero => exact absurd HA.out (by simp [Fh.l0])
      | succ k3 =>
       have H := HA.out
       clear HA
       simp only [Fh.l0] at H
       by_cases c9 : a7 < a1
       ·
        rw [if_pos c9] at H
        have b3 := decide_eq_true c9
        clear c9
        have H' := am H
        clear H
        go_wp2
        go_roundg k3
        case measure => have := b0.out; have := b4.out; have := b5.out; omega
        case rel => exact ⟨(wrap64 (2 * a6)), (wrap64 (a7 + 1)), el, el, H', ⟨by have := b0.out; have := b4.out; have := b5.out; omega⟩, by repeat (first | exact q0r.refl _ | apply q0r.step)⟩
       rw [if_neg c9] at H
       have b3 := decide_eq_false c9
       clear c9
       by_cases a8 : a6 > 1048576
       ·
        rw [if_pos a8] at H
        have a9 := decide_eq_true a8
        clear a8
        obtain rfl := Option.some.inj H
        go_wp2
        go_ret
        exact ⟨by first | rfl | (simp; done) | (simp [*]; done), by repeat (first | exact q0r.refl _ | apply q0r.step)⟩
       rw [if_neg a8] at H
       have a9 := decide_eq_false a8
       clear a8
       obtain rfl := Option.some.inj H
       go_wp2
       go_ret
       exact ⟨by first | rfl | (simp; done) | (simp [*]; done), by repeat (first | exact q0r.refl _ | apply q0r.step)⟩
def F5.f (k : Nat) (b1 : List Int) (a3 : Int) (a4 : Int) (a8 : Int) (a5 : Int) (a0 : Int) (a9 : Int) (b0 : Int) (a1 : ByteArray) (a2 : Int) : Option (Int × Int × Int × Int × ByteArray × Int) := if a5 = 2 then (if a0 ≥ a3 then (some (4, a0, 0, 0, a1, 0)) else ((Fh.f k a4 a0).bind fun a6 => ((Ff.f k a2 (([a6] : List Int))).bind fun a7 => (some (1, a0, a7, 0, a1, 0))))) else (some (0, 0, 0, 0, (⟨#[]⟩ : ByteArray), 191))
set_option maxHeartbeats 8000000 in
set_option maxRecDepth 100000 in
theorem F5.calls (k : Nat) (b8 : Option Addr) (c7 : Nat) (b3 : List Int) (b5 : Int) (b4 : Int) (b9 : Int) (c6 : Int) (a8 : Int) (b6 : Int) (c9 : Int) (a9 : ByteArray) (a2 : Int) (r1 : Int) (r2 : Int) (r3 : Int) (r4 : Int) (r5 : ByteArray) (r6 : Int) (w : World) (d8 : Kd.C (Kd.int .i64) w b8 b3.length b3) (d7 : b3.length ≤ c7) (h : F5.f k b3 b5 b4 b9 c6 a8 b6 c9 a9 a2 = some (r1, r2, r3, r4, r5, r6)) :
  Calls Try.prog 60 #[.agg #[.slice b8 b3.length c7, .int .i64 b5, .int .i64 b4, .int .i64 b9], .agg #[.int .i64 c6, .int .i64 a8, .int .i64 b6, .int .i64 c9, .string a9], .int .i64 a2] w fun e w' => e = .returned (.tuple #[.agg #[.int .i64 r1, .int .i64 r2, .int .i64 r3, .int .i64 r4, .string r5], .int .i64 r6]) ∧ Below w.heap.size w w' := by
 have i0 := Try.underlying49
 have i1 := Try.underlying51
 have g1 := am d8
 have g0 := am d7
 clear d8 d7
 have HB := am (Below.refl w.heap.size w)
 unfold F5.f at h
 have H := h
 clear h
 by_cases c4 : c6 = 2
 ·
  rw [if_pos c4] at H
  obtain ⟨f6, f7⟩ := qt c4
  clear c4
  by_cases c5 : a8 ≥ b5
  ·
   rw [if_pos c5] at H
   have f8 := decide_eq_true c5
   clear c5
   simp only [Option.some.injEq, Prod.mk.injEq] at H
   obtain ⟨rfl, rfl, rfl, rfl, rfl, rfl⟩ := H
   go_enter Try.func60, Try.ntmps60
   go_wp2_with (first | ((with_reducible refine gD 3 ?_); refine bz 3 #[.slice b8 b3.length c7, .int .i64 b5, .int .i64 b4, .int .i64 b9] 49 HB ?_; clear HB; intro d0 hg w6 hb a0 d3 HB; clear hb hg) | ((with_reducible refine gD 4 ?_); refine bz 4 #[.int .i64 c6, .int .i64 a8, .int .i64 b6, .int .i64 c9, .string a9] 51 HB ?_; clear HB; intro b7 hg w7 hb a1 d4 HB; have b1 := nL hg a0; have a4 := nG hg a0; replace a0 := kB a0 hb; clear hb hg) | ((with_reducible refine gD 6 ?_); refine bz 6 #[.int .i64 0, .int .i64 0, .int .i64 0, .int .i64 0, .string (⟨#[]⟩ : ByteArray)] 51 HB ?_; clear HB; intro b2 hg w8 hb a3 d5 HB; have a6 := nL hg a0; have a7 := nG hg a0; replace a0 := kB a0 hb; have a5 := nL hg a1; replace a1 := kB a1 hb; clear hb hg; have h9 := nn a4; have g2 := nn a5; have e6 := y5 a1; have g3 := nn a6; have e7 := y4 a0; have e8 := y5 a3))
   refine bodyPost_ret (q0v rfl _ _ b2 51 #[.int .i64 4, .int .i64 a8, .int .i64 0, .int .i64 0, .string a9] (0, 0) _ rfl (pP a3.out) Try.underlying51 rfl (by kernel_rfl)) rfl ?_
   exact ⟨er, pB HB.out⟩
  rw [if_neg c5] at H
  have f8 := decide_eq_false c5
  clear c5
  replace H := Option.bind_eq_some_iff.mp H
  obtain ⟨c8, e1, H⟩ := H
  try dsimp only at H
  have h6 := am e1
  clear e1
  obtain ⟨y268, hy268⟩ : ∃ y_ : List Int, y_ = (([c8] : List Int)) := ⟨_, rfl⟩
  replace H : ((Ff.f k a2 y268).bind fun d2 => (some (1, a8, d2, 0, a9, 0))) = some (r1, r2, r3, r4, r5, r6) := by first | (rw [hy268]; with_reducible exact H) | (have f5 := (Option.bind_some _ _).symm.trans H; rw [hy268]; with_reducible exact f5) | (have f5 := (Option.bind_some _ _).symm.trans H; with_reducible exact f5) | with_reducible exact H | (rw [hy268]; exact H) | exact H
  have d6 := am hy268
  clear hy268
  replace H := Option.bind_eq_some_iff.mp H
  obtain ⟨d2, e2, H⟩ := H
  try dsimp only at H
  have h7 := am e2
  clear e2
  simp only [Option.some.injEq, Prod.mk.injEq] at H
  obtain ⟨rfl, rfl, rfl, rfl, rfl, rfl⟩ := H
  go_enter Try.func60, Try.ntmps60
  go_wp2_with (first | ((with_reducible refine gD 3 ?_); refine bz 3 #[.slice b8 b3.length c7, .int .i64 b5, .int .i64 b4, .int .i64 b9] 49 HB ?_; clear HB; intro d0 hg i3 hb a0 d3 HB; clear hb hg) | ((with_reducible refine gD 4 ?_); refine bz 4 #[.int .i64 c6, .int .i64 a8, .int .i64 b6, .int .i64 c9, .string a9] 51 HB ?_; clear HB; intro b7 hg i4 hb a1 d4 HB; have b1 := nL hg a0; have a4 := nG hg a0; replace a0 := kB a0 hb; clear hb hg) | ((with_reducible refine gD 6 ?_); refine bz 6 #[.int .i64 0, .int .i64 0, .int .i64 0, .int .i64 0, .string (⟨#[]⟩ : ByteArray)] 51 HB ?_; clear HB; intro b2 hg i5 hb a3 d5 HB; have a6 := nL hg a0; have a7 := nG hg a0; replace a0 := kB a0 hb; have a5 := nL hg a1; replace a1 := kB a1 hb; clear hb hg; have g4 := nn a4; have g5 := nn a5; have e9 := y5 a1; have g6 := nn a6; have f0 := y4 a0) | ((with_reducible refine gC 85 ?_); refine gL 27 Try.func85 #[.int .i64 b4, .int .i64 a8] ?_; (with_reducible refine (Fh.calls k b4 a8 c8 _ h6.out).mono ?_); rintro e w' ⟨rfl, ⟨nd, rfl⟩⟩; refine ⟨_, rfl, ?_⟩) | ((with_reducible refine gD 28 ?_); refine Kd.R_lit (Kd.int .i64) _ 3 ?hg (N := 28) ?hd (xs := ([c8] : List Int)) (inner := [.int .i64 c8]) (ok := fun _ => True) (okp := fun _ => True) ?hr ?hp (fun _ hk => hk) trivial (Below.refl _ _) (Nat.le_refl _) (by simp) ?_; (case hd => rfl); (case hg => rfl); (case hr => first | (go_simp; done) | (go_simp; rfl)); (case hp => exact (Reps.one (show Kd.M (Kd.int .i64) _ _ _ c8 [.int .i64 c8] from rfl) (Reps.none _ _))); intro i2 d9 d1 hb h8 e5; clear h8 e5; (first | rw [← d6.out] at d1 | (simp only [Int.reduceToNat] at d1; rw [← d6.out] at d1)); have b0 := am (Kd.R_lower d1 (q0m (pB HB.out))); replace a0 := kB a0 hb; replace a1 := am (q0c (g := b7) (o := .cells #[.int .i64 1, .int .i64 a8, .int .i64 b6, .int .i64 0, .string a9] 51 (0, 0)) (pP a1.out) hb); replace a3 := kB a3 hb; replace HB := bS HB hb; clear hb d1; obtain ⟨e3, e4, f9⟩ := Kd.R_slice b0.out; subst f9) | ((with_reducible refine gC 84 ?_); refine gL 29 Try.func84 #[.int .i64 a2, .slice e3 y268.length e4] ?_; (with_reducible refine (Ff.calls k a2 _ _ y268 d2 _ ?side1 ?side2 h7.out).mono ?_); (case side1 => exact pC ((Kd.R_reads' b0.out).2.2)); (case side2 => exact (Kd.R_reads' b0.out).2.1); rintro e w' ⟨rfl, ⟨nd, rfl⟩⟩; refine ⟨_, rfl, ?_⟩; (try (rw [drewN_self d9]; generalize e0 : World.drewN d9 _ = d9; have h0 : q0e (Kd.R (Kd.int .i64) 3 d9 w.heap.size (fun _ => True) (.slice e3 y268.length e4) y268) := ⟨by rw [← e0]; exact (pR b0.out)⟩; have h2 : q0e (d9.heap[d0]? = some (.cells #[.slice b8 b3.length c7, .int .i64 b5, .int .i64 b4, .int .i64 b9] 49 (0, 0))) := ⟨by rw [← e0]; exact (pk a0.out)⟩; have h3 : q0e (d9.heap[b7]? = some (.cells #[.int .i64 1, .int .i64 a8, .int .i64 b6, .int .i64 0, .string a9] 51 (0, 0))) := ⟨by rw [← e0]; exact (pk a1.out)⟩; have h4 : q0e (d9.heap[b2]? = some (.cells #[.int .i64 0, .int .i64 0, .int .i64 0, .int .i64 0, .string (⟨#[]⟩ : ByteArray)] 51 (0, 0))) := ⟨by rw [← e0]; exact (pk a3.out)⟩; have h5 : q0e (Below w.heap.size w d9) := ⟨by rw [← e0]; exact (pB HB.out)⟩; clear b0 a0 a1 a3 HB e0; have b0 := h0; have a0 := h2; have a1 := h3; have a3 := h4; have HB := h5; clear h0 h2 h3 h4 h5)); have f1 := y5 a1; have f2 := y5 a3))
  refine bodyPost_ret (q0v rfl _ _ b2 51 #[.int .i64 1, .int .i64 a8, .int .i64 d2, .int .i64 0, .string a9] (0, 0) _ rfl (pP a3.out) Try.underlying51 rfl (by kernel_rfl)) rfl ?_
  exact ⟨er, pB HB.out⟩
 rw [if_neg c4] at H
 obtain ⟨f6, f7⟩ := qf c4
 simp only [Option.some.injEq, Prod.mk.injEq] at H
 obtain ⟨rfl, rfl, rfl, rfl, rfl, rfl⟩ := H
 go_enter Try.func60, Try.ntmps60
 go_wp2_with (first | ((with_reducible refine gD 3 ?_); refine bz 3 #[.slice b8 b3.length c7, .int .i64 b5, .int .i64 b4, .int .i64 b9] 49 HB ?_; clear HB; intro d0 hg i6 hb a0 d3 HB; clear hb hg) | ((with_reducible refine gD 4 ?_); refine bz 4 #[.int .i64 c6, .int .i64 a8, .int .i64 b6, .int .i64 c9, .string a9] 51 HB ?_; clear HB; intro b7 hg i7 hb a1 d4 HB; have b1 := nL hg a0; have a4 := nG hg a0; replace a0 := kB a0 hb; clear hb hg) | ((with_reducible refine gD 6 ?_); refine bz 6 #[.int .i64 0, .int .i64 0, .int .i64 0, .int .i64 0, .string (⟨#[]⟩ : ByteArray)] 51 HB ?_; clear HB; intro b2 hg i8 hb a3 d5 HB; have a6 := nL hg a0; have a7 := nG hg a0; replace a0 := kB a0 hb; have a5 := nL hg a1; replace a1 := kB a1 hb; clear hb hg; have g7 := nn a4; have g8 := nn a5; have f3 := y5 a1; have g9 := nn a7; have f4 := y5 a3))
 refine bodyPost_ret (q0v rfl _ _ b2 51 #[.int .i64 0, .int .i64 0, .int .i64 0, .int .i64 0, .string (⟨#[]⟩ : ByteArray)] (0, 0) _ rfl (pP a3.out) Try.underlying51 rfl (by kernel_rfl)) rfl ?_
 exact ⟨er, pB HB.out⟩
def Fy.f (k : Nat) (a0 : Int) : Option (Int) := (Ff.f k a0 ([] : List Int)).bind fun a1 => (some a1)
set_option maxHeartbeats 8000000 in
set_option maxRecDepth 100000 in
theorem Fy.calls (k : Nat) (a0 : Int) (r : Int) (w : World) (h : Fy.f k a0 = some r) :
  Calls Try.prog 65 #[.int .i64 a0] w fun e w' => e = .returned (.int .i64 r) ∧ q0r w w' := by
 unfold Fy.f at h
 have H := h
 clear h
 replace H := Option.bind_eq_some_iff.mp H
 obtain ⟨a1, a2, H⟩ := H
 try dsimp only at H
 have A2 := am a2
 clear a2
 obtain rfl := Option.some.inj H
 go_enter Try.func65, Try.ntmps65
 go_wp2_with (first | ((with_reducible refine gC 84 ?_); refine gL 4 Try.func84 #[.int .i64 a0, .slice none 0 0] ?_; (refine (Ff.calls k a0 _ _ ([] : List Int) a1 _ ?side1 ?side2 A2.out).mono ?_); (case side1 => exact Kd.C_nil _ _); (case side2 => exact Nat.le_refl _); rintro e w' ⟨rfl, ⟨nd, rfl⟩⟩; refine ⟨_, rfl, ?_⟩))
 go_ret
 exact ⟨by first | rfl | (simp; done) | (simp [*]; done), by repeat (first | exact q0r.refl _ | apply q0r.step)⟩
mutual
def Fl.l0 : Nat → Int → Int → List (S51) → Int → Int → ByteArray → ByteArray → List (S49) → Int → List (S51) → Option (Int)
 | 0, _, _, _, _, _, _, _, _, _, _ => none
 | k + 1, x1, x5, x9, a7, a0, a1, a2, a3, a4, a5 => if a0 < a7 then (if 0 ≤ a0 then (if a0 < (x9.length : Int) then (if ((q0a x9 a0).f0) = 2 then ((Fy.f k x1).bind fun a6 => (Fl.j1 k x1 x5 a0 x9 a7 a0 (decide (((q0a x9 a0).f2) ≤ a6)) a1 a2 a3 a4 a5 ((q0a x9 a0).f0) ((q0a x9 a0).f1) ((q0a x9 a0).f2) ((q0a x9 a0).f3) ((q0a x9 a0).f4))) else (Fl.j1 k x1 x5 a0 x9 a7 a0 false a1 a2 a3 a4 a5 ((q0a x9 a0).f0) ((q0a x9 a0).f1) ((q0a x9 a0).f2) ((q0a x9 a0).f3) ((q0a x9 a0).f4))) else (none)) else (none)) else (some x5)
def Fl.j1 : Nat → Int → Int → Int → List (S51) → Int → Int → Bool → ByteArray → ByteArray → List (S49) → Int → List (S51) → Int → Int → Int → Int → ByteArray → Option (Int)
 | 0, _, _, _, _, _, _, _, _, _, _, _, _, _, _, _, _, _ => none
 | k + 1, x1, x5, x6, x9, a6, a7, b2, a1, a2, a3, a4, a0, a8, a9, a5, b0, b1 => if b2 = true then (if x5 < 0 then (Fl.l0 k x1 x6 x9 a6 (wrap64 (a7 + 1)) a1 a2 a3 a4 a0) else (if 0 ≤ x5 then (if x5 < (a0.length : Int) then (if a5 < ((q0a a0 x5).f2) then (Fl.l0 k x1 x6 x9 a6 (wrap64 (a7 + 1)) a1 a2 a3 a4 a0) else (Fl.l0 k x1 x5 x9 a6 (wrap64 (a7 + 1)) a1 a2 a3 a4 a0)) else (none)) else (none))) else (Fl.l0 k x1 x5 x9 a6 (wrap64 (a7 + 1)) a1 a2 a3 a4 a0)
end
def Fl.f (k : Nat) (a2 : ByteArray) (a3 : ByteArray) (a5 : List (S49)) (a4 : Int) (a0 : List (S51)) (a1 : Int) : Option (Int) := Fl.l0 k a1 (-1) a0 (a0.length : Int) 0 a2 a3 a5 a4 a0
set_option maxHeartbeats 8000000 in
set_option maxRecDepth 100000 in
theorem Fl.calls (k : Nat) (b4 : ByteArray) (b5 : ByteArray) (f6 : Option Addr) (f7 : Nat) (b3 : List (S49)) (b6 : Int) (g3 : Option Addr) (f8 : Nat) (a3 : List (S51)) (a1 : Int) (r : Int) (w : World) (i0 : Kd.C k49 w f6 b3.length b3) (h6 : b3.length ≤ f7) (i1 : Kd.C k51 w g3 a3.length a3) (h7 : a3.length ≤ f8) (h : Fl.f k b4 b5 b3 b6 a3 a1 = some r) :
  Calls Try.prog 47 #[.agg #[.string b4, .string b5, .slice f6 b3.length f7, .int .i64 b6, .slice g3 a3.length f8], .int .i64 a1] w fun e w' => e = .returned (.int .i64 r) ∧ Below w.heap.size w w' := by
 have l8 := Try.underlying27
 have l9 := Try.underlying51
 have l1 := am i0
 have k8 := am h6
 clear i0 h6
 have g4 := am i1
 have k9 := am h7
 clear i1 h7
 have HB := am (Below.refl w.heap.size w)
 unfold Fl.f at h
 have H := h
 clear h
 have H' := am H
 clear H
 go_enter Try.func47, Try.ntmps47
 go_wp2_with (first | ((with_reducible refine gD 2 ?_); refine bz 2 #[.string b4, .string b5, .slice f6 b3.length f7, .int .i64 b6, .slice g3 a3.length f8] 27 HB ?_; clear HB; intro g1 hg w3 hb a2 h3 HB; clear hb hg; obtain ⟨d0, d1, d2, d3, d4, e0, e1, e2, e3, e4⟩ := y5 a2))
 repeat (go_quiet (first | ((with_reducible refine gD 2 ?_); refine bz 2 #[.string b4, .string b5, .slice f6 b3.length f7, .int .i64 b6, .slice g3 a3.length f8] 27 HB ?_; clear HB; intro g1 hg w3 hb a2 h3 HB; clear hb hg; obtain ⟨d0, d1, d2, d3, d4, e0, e1, e2, e3, e4⟩ := y5 a2)); try go_wp2_with (first | ((with_reducible refine gD 2 ?_); refine bz 2 #[.string b4, .string b5, .slice f6 b3.length f7, .int .i64 b6, .slice g3 a3.length f8] 27 HB ?_; clear HB; intro g1 hg w3 hb a2 h3 HB; clear hb hg; obtain ⟨d0, d1, d2, d3, d4, e0, e1, e2, e3, e4⟩ := y5 a2)))
 go_loopg [5, 11] k (fun kq v5 m0 w' => ∃ (a7 : Int) (a0 : Int), v5 = .int .i64 a7 ∧ m0 = .int .i64 a0 ∧ q0e (Fl.l0 kq a1 a7 a3 (a3.length : Int) a0 b4 b5 b3 b6 a3 = some r) ∧ q0e (kq ≤ k) ∧ q0e (w'.heap[g1]? = some (.cells #[.string b4, .string b5, (.slice f6 b3.length f7), .int .i64 b6, (.slice g3 a3.length f8)] 27 (0, 0))) ∧ q0e (Below w.heap.size w w'))
 case atStart => exact ⟨((-1)), (0), el, el, H', ⟨Nat.le_refl _⟩, ⟨pk a2.out⟩, ⟨pB HB.out⟩⟩
 case round =>
  clear H'
  try clear d0
  try clear d1
  try clear d2
  try clear d3
  try clear d4
  try clear e0
  try clear e1
  try clear e2
  try clear e3
  try clear e4
  try clear a2; try clear HB
  obtain ⟨a7, a0, rfl, rfl, HA, g8, a2, HB⟩ := hrel
  cases gk with
  | zero => exact absurd HA.out (by simp [Fl.l0])
  | succ k1 =>
   have H := HA.out
   clear HA
   simp only [Fl.l0] at H
   by_cases c5 : a0 < (a3.length : Int)
   ·
    rw [if_pos c5] at H
    have j0 := decide_eq_true c5
    clear c5
    by_cases c6 : 0 ≤ a0
    ·
     rw [if_pos c6] at H
     have k5 := decide_eq_true c6
     clear c6
     by_cases c7 : a0 < (a3.length : Int)
     ·
      rw [if_pos c7] at H
      have k6 := decide_eq_true c7
      clear c7
      have k4 := am H
      clear H
      have g9 : 0 ≤ (a0 : Int) := od
      have h0 : a0 < (a3.length : Int) := od
      obtain ⟨g5, k7, e5, e6, e7, e8, e9⟩ := q1i g4.out a0 g9 h0
      cases k7
      replace e5 := bX HB e5
      replace e6 := bX HB e6
      replace e7 := bX HB e7
      replace e8 := bX HB e8
      replace e9 := bX HB e9
      replace g9 := eq_true g9
      replace h0 := eq_true h0
      go_upto_region 5 with (first | ((with_reducible refine gD 7 ?_); refine bz 7 #[.int .i64 0, .int .i64 0, .int .i64 0, .int .i64 0, .string (⟨#[]⟩ : ByteArray)] 51 HB ?_; clear HB; intro g7 hg w9 hb a6 h4 HB; have a5 := nL hg a2; have a4 := nG hg a2; replace a2 := kB a2 hb; clear hb hg; have h8 := a4.out; have h9 := a5.out; obtain ⟨b7, b8, b9, c8, c9, d5, d6, d7, d8, d9⟩ := y5 a6))
      repeat (go_quiet (first | ((with_reducible refine gD 7 ?_); refine bz 7 #[.int .i64 0, .int .i64 0, .int .i64 0, .int .i64 0, .string (⟨#[]⟩ : ByteArray)] 51 HB ?_; clear HB; intro g7 hg w9 hb a6 h4 HB; have a5 := nL hg a2; have a4 := nG hg a2; replace a2 := kB a2 hb; clear hb hg; have h8 := a4.out; have h9 := a5.out; obtain ⟨b7, b8, b9, c8, c9, d5, d6, d7, d8, d9⟩ := y5 a6)); go_upto_region 5 with (first | ((with_reducible refine gD 7 ?_); refine bz 7 #[.int .i64 0, .int .i64 0, .int .i64 0, .int .i64 0, .string (⟨#[]⟩ : ByteArray)] 51 HB ?_; clear HB; intro g7 hg w9 hb a6 h4 HB; have a5 := nL hg a2; have a4 := nG hg a2; replace a2 := kB a2 hb; clear hb hg; have h8 := a4.out; have h9 := a5.out; obtain ⟨b7, b8, b9, c8, c9, d5, d6, d7, d8, d9⟩ := y5 a6)))
      (try simp only [Act.put, List.setIfInBounds_toArray, List.set_cons_zero, List.set_cons_succ])
      go_cut [25] (fun m1 wc => ∃ (kq : Nat) (g2 : Bool), m1 = .bool g2 ∧ q0e (Fl.j1 kq a1 a7 a0 a3 (a3.length : Int) a0 g2 b4 b5 b3 b6 a3 ((q0a a3 a0).f0) ((q0a a3 a0).f1) ((q0a a3 a0).f2) ((q0a a3 a0).f3) ((q0a a3 a0).f4) = some r) ∧ q0e (kq ≤ k1) ∧ q0e (wc.heap[g1]? = some (.cells #[.string b4, .string b5, (.slice f6 b3.length f7), .int .i64 b6, (.slice (some g5) a3.length f8)] 27 (0, 0))) ∧ q0e (wc.heap[g7]? = some (.cells #[.int .i64 ((q0a a3 a0).f0), .int .i64 ((q0a a3 a0).f1), .int .i64 ((q0a a3 a0).f2), .int .i64 ((q0a a3 a0).f3), .string ((q0a a3 a0).f4)] 51 (0, 0))) ∧ q0e (Below w.heap.size w wc))
      case first =>
       have H := k4.out
       clear k4
       by_cases i6 : ((q0a a3 a0).f0) = 2
       ·
        rw [if_pos i6] at H
        obtain ⟨f5, i7⟩ := qt i6
        clear i6
        (first | rw [f5] | (simp only [q1x, q2b]; rw [f5]) | skip)
        replace H := Option.bind_eq_some_iff.mp H
        obtain ⟨h2, i5, H⟩ := H
        try dsimp only at H
        have k3 := am i5
        clear i5
        have H' := am H
        clear H
        have l4 := nn a4
        have j5 := y5 a6
        go_wp2_with (first | (go_at_call 65; (with_reducible refine (Fy.calls k1 a1 h2 _ k3.out).mono ?_); rintro e w' ⟨rfl, ⟨nd, rfl⟩⟩; (try first | exact ⟨rfl, _, World.drewN_drewN _ _ _⟩ | exact ⟨rfl, _, Eq.trans (World.drewN_drewN _ _ _) (congrArg (World.drewN _) (Nat.add_assoc _ _ _))⟩)))
        repeat (go_quiet (first | (go_at_call 65; (with_reducible refine (Fy.calls k1 a1 h2 _ k3.out).mono ?_); rintro e w' ⟨rfl, ⟨nd, rfl⟩⟩; (try first | exact ⟨rfl, _, World.drewN_drewN _ _ _⟩ | exact ⟨rfl, _, Eq.trans (World.drewN_drewN _ _ _) (congrArg (World.drewN _) (Nat.add_assoc _ _ _))⟩))); try go_wp2_with (first | (go_at_call 65; (with_reducible refine (Fy.calls k1 a1 h2 _ k3.out).mono ?_); rintro e w' ⟨rfl, ⟨nd, rfl⟩⟩; (try first | exact ⟨rfl, _, World.drewN_drewN _ _ _⟩ | exact ⟨rfl, _, Eq.trans (World.drewN_drewN _ _ _) (congrArg (World.drewN _) (Nat.add_assoc _ _ _))⟩))))
        go_meet
        case rel => exact ⟨_, (decide (((q0a a3 a0).f2) ≤ h2)), el, H', ⟨by have := g8.out; first | omega | exact Nat.le_refl _⟩, ⟨pk a2.out⟩, ⟨pP a6.out⟩, ⟨pB HB.out⟩⟩
       rw [if_neg i6] at H
       obtain ⟨f5, i7⟩ := qf i6
       (first | rw [f5] | (simp only [q1x, q2b]; rw [f5]) | skip)
       have H' := am H
       clear H
       have l5 := nn a4
       have j6 := y5 a6
       go_wp2
       repeat (go_quiet (fail); try go_wp2)
       go_meet
       case rel => exact ⟨_, (false), el, H', ⟨by have := g8.out; first | omega | exact Nat.le_refl _⟩, ⟨pk a2.out⟩, ⟨pP a6.out⟩, ⟨pB HB.out⟩⟩
      case rest =>
       clear k4
       try clear c5
       try clear j0
       try clear c6
       try clear k5
       try clear c7
       try clear k6
       try clear b7
       try clear b8
       try clear b9
       try clear c8
       try clear c9
       try clear d0
       try clear d1
       try clear d2
       try clear d3
       try clear d4
       try clear d5
       try clear d6
       try clear d7
       try clear d8
       try clear d9
       try clear e0
       try clear e1
       try clear e2
       try clear e3
       try clear e4
       try clear e5
       try clear e6
       try clear e7
       try clear e8
       try clear e9
       try clear g9
       try clear h0
       obtain ⟨kq, g2, rfl, HA, h5, a2, a6, HB⟩ := hcut
       cases kq with
       | zero => exact absurd HA.out (by simp [Fl.j1])
       | succ k2 =>
        have H := HA.out
        clear HA
        simp only [Fl.j1] at H
        by_cases j2 : g2 = true
        ·
         subst j2
         rw [if_pos rfl] at H
         try dsimp only at H
         by_cases i3 : a7 < 0
         ·
          rw [if_pos i3] at H
          have i8 := decide_eq_true i3
          clear i3
          have H' := am H
          clear H
          go_wp2
          repeat (go_quiet (fail); try go_wp2)
          go_roundg k2
          case measure => have := g8.out; have := h5.out; omega
          case rel => exact ⟨(a0), (wrap64 (a0 + 1)), el, el, H', ⟨by have := g8.out; have := h5.out; omega⟩, ⟨pk a2.out⟩, ⟨pB HB.out⟩⟩
         rw [if_neg i3] at H
         have i8 := decide_eq_false i3
         clear i3
         by_cases j3 : 0 ≤ a7
         ·
          rw [if_pos j3] at H
          have l2 := decide_eq_true j3
          clear j3
          by_cases j4 : a7 < (a3.length : Int)
          ·
           rw [if_pos j4] at H
           have l3 := decide_eq_true j4
           clear j4
           by_cases i4 : ((q0a a3 a0).f2) < ((q0a a3 a7).f2)
           ·
            rw [if_pos i4] at H
            have i9 := decide_eq_true i4
            clear i4
            have H' := am H
            clear H
            have l6 := nn a4
            have j7 := y5 a6
            have j8 := y5 a2
            have f9 : 0 ≤ (a7 : Int) := od
            have g0 : a7 < (a3.length : Int) := od
            obtain ⟨g6, i2, a8, a9, b0, b1, b2⟩ := q1i g4.out a7 f9 g0
            obtain rfl : g5 = g6 := (by injection i2)
            replace a8 := bX HB a8
            replace a9 := bX HB a9
            replace b0 := bX HB b0
            replace b1 := bX HB b1
            replace b2 := bX HB b2
            replace f9 := eq_true f9
            replace g0 := eq_true g0
            go_wp2
            repeat (go_quiet (fail); try go_wp2)
            go_roundg k2
            case measure => have := g8.out; have := h5.out; omega
            case rel => exact ⟨(a0), (wrap64 (a0 + 1)), el, el, H', ⟨by have := g8.out; have := h5.out; omega⟩, ⟨pk a2.out⟩, ⟨pB HB.out⟩⟩
           rw [if_neg i4] at H
           have i9 := decide_eq_false i4
           clear i4
           have H' := am H
           clear H
           have l7 := nn a4
           have j9 := y5 a6
           have k0 := y5 a2
           have f9 : 0 ≤ (a7 : Int) := od
           have g0 : a7 < (a3.length : Int) := od
           obtain ⟨g6, i2, a8, a9, b0, b1, b2⟩ := q1i g4.out a7 f9 g0
           obtain rfl : g5 = g6 := (by injection i2)
           replace a8 := bX HB a8
           replace a9 := bX HB a9
           replace b0 := bX HB b0
           replace b1 := bX HB b1
           replace b2 := bX HB b2
           replace f9 := eq_true f9
           replace g0 := eq_true g0
           go_wp2
           repeat (go_quiet (fail); try go_wp2)
           go_roundg k2
           case measure => have := g8.out; have := h5.out; omega
           case rel => exact ⟨(a7), (wrap64 (a0 + 1)), el, el, H', ⟨by have := g8.out; have := h5.out; omega⟩, ⟨pk a2.out⟩, ⟨pB HB.out⟩⟩
          rw [if_neg j4] at H
          exact absurd H (by simp)
         rw [if_neg j3] at H
         exact absurd H (by simp)
        replace j2 := Bool.eq_false_iff.mpr j2
        subst j2
        rw [if_neg (show ¬ (false = true) by decide)] at H
        try dsimp only at H
        have H' := am H
        clear H
        go_wp2
        repeat (go_quiet (fail); try go_wp2)
        go_roundg k2
        case measure => have := g8.out; have := h5.out; omega
        case rel => exact ⟨(a7), (wrap64 (a0 + 1)), el, el, H', ⟨by have := g8.out; have := h5.out; omega⟩, ⟨pk a2.out⟩, ⟨pB HB.out⟩⟩
     rw [if_neg c7] at H
     exact absurd H (by simp)
    rw [if_neg c6] at H
    exact absurd H (by simp)
   rw [if_neg c5] at H
   have j0 := decide_eq_false c5
   clear c5
   obtain rfl := Option.some.inj H
   go_wp2
   repeat (go_quiet (fail); try go_wp2)
   go_ret
   exact ⟨er, pB HB.out⟩
def Ge.f (k : Nat) (b0 : List Int) (a7 : Int) (a8 : Int) (a9 : Int) (a3 : Int) (a4 : Int) (a1 : Int) (a5 : Int) (a6 : ByteArray) (a2 : Int) : Option (Int × Int × Int × Int × ByteArray) := if a3 = 2 then ((Fy.f k a2).bind fun b1 => (if a1 ≤ b1 then ((F5.f k b0 a7 a8 a9 a3 a4 a1 a5 a6 a1).bind fun a0 => (some (a0.1, a0.2.1, a0.2.2.1, a0.2.2.2.1, a0.2.2.2.2.1))) else (some (a3, a4, a1, a5, a6)))) else (some (a3, a4, a1, a5, a6))
set_option maxHeartbeats 8000000 in
set_option maxRecDepth 100000 in
theorem Ge.calls (k : Nat) (d8 : Option Addr) (d9 : Nat) (b9 : List Int) (d0 : Int) (d1 : Int) (d2 : Int) (b7 : Int) (c7 : Int) (b6 : Int) (c8 : Int) (c9 : ByteArray) (a2 : Int) (r1 : Int) (r2 : Int) (r3 : Int) (r4 : Int) (r5 : ByteArray) (w : World) (p5 : Kd.C (Kd.int .i64) w d8 b9.length b9) (n0 : b9.length ≤ d9) (h : Ge.f k b9 d0 d1 d2 b7 c7 b6 c8 c9 a2 = some (r1, r2, r3, r4, r5)) :
  Calls Try.prog 49 #[.agg #[.slice d8 b9.length d9, .int .i64 d0, .int .i64 d1, .int .i64 d2], .agg #[.int .i64 b7, .int .i64 c7, .int .i64 b6, .int .i64 c8, .string c9], .int .i64 a2] w fun e w' => e = .returned (.agg #[.int .i64 r1, .int .i64 r2, .int .i64 r3, .int .i64 r4, .string r5]) ∧ Below w.heap.size w w' := by
 have r6 := Try.underlying49
 have r7 := Try.underlying51
 have m2 := am p5
 have m1 := am n0
 clear p5 n0
 have HB := am (Below.refl w.heap.size w)
 unfold Ge.f at h
 have H := h
 clear h
 by_cases c4 : b7 = 2
 ·
  rw [if_pos c4] at H
  obtain ⟨p7, p8⟩ := qt c4
  clear c4
  replace H := Option.bind_eq_some_iff.mp H
  obtain ⟨e1, q0, H⟩ := H
  try dsimp only at H
  have A5 := am q0
  clear q0
  by_cases c6 : b6 ≤ e1
  ·
   rw [if_pos c6] at H
   have p9 := decide_eq_true c6
   clear c6
   replace H := Option.bind_eq_some_iff.mp H
   obtain ⟨⟨m3, m4, m5, m6, m7, p6⟩, q1, H⟩ := H
   try dsimp only at H
   have A7 := am q1
   clear q1
   simp only [Option.some.injEq, Prod.mk.injEq] at H
   obtain ⟨rfl, rfl, rfl, rfl, rfl⟩ := H
   go_enter Try.func49, Try.ntmps49
   go_wp2_with (first | ((with_reducible refine gD 3 ?_); refine bz 3 #[.slice d8 b9.length d9, .int .i64 d0, .int .i64 d1, .int .i64 d2] 49 HB ?_; clear HB; intro d6 hg w8 hb a0 d3 HB; clear hb hg) | ((with_reducible refine gD 4 ?_); refine bz 4 #[.int .i64 b7, .int .i64 c7, .int .i64 b6, .int .i64 c8, .string c9] 51 HB ?_; clear HB; intro d7 hg w9 hb a1 d4 HB; have a3 := nL hg a0; have a5 := nG hg a0; replace a0 := kB a0 hb; clear hb hg) | ((with_reducible refine gD 6 ?_); refine bz 6 #[.int .i64 0, .int .i64 0, .int .i64 0, .int .i64 0, .string (⟨#[]⟩ : ByteArray)] 51 HB ?_; clear HB; intro b8 hg q2 hb a9 d5 HB; have a4 := nL hg a0; have a7 := nG hg a0; replace a0 := kB a0 hb; have a6 := nL hg a1; have a8 := nG hg a1; replace a1 := kB a1 hb; clear hb hg; have n1 := a5.out; have o3 := a3.out; have n2 := a6.out; have o4 := a8.out; obtain ⟨e2, e3, e4, e5, e6, i2, i3, i4, i5, i6⟩ := y5 a1) | (go_at_call 65; (with_reducible refine (Fy.calls k a2 e1 _ A5.out).mono ?_); rintro e w' ⟨rfl, ⟨nd, rfl⟩⟩; (try first | exact ⟨rfl, _, World.drewN_drewN _ _ _⟩ | exact ⟨rfl, _, Eq.trans (World.drewN_drewN _ _ _) (congrArg (World.drewN _) (Nat.add_assoc _ _ _))⟩); have n3 := a4.out; have o5 := a7.out; obtain ⟨e7, e8, e9, f0, i7, i8, i9, j0⟩ := y4 a0) | (go_at_call 60; (with_reducible refine (F5.calls k _ _ b9 d0 d1 d2 b7 c7 b6 c8 c9 b6 m3 m4 m5 m6 m7 p6 _ ?side1 ?side2 A7.out).mono ?_); (case side1 => exact (Kd.C_below m2.out (pB (pB HB.out)))); (case side2 => exact m1.out); rintro e q3 ⟨rfl, hb⟩; replace a0 := kB a0 hb; replace a1 := kB a1 hb; replace a9 := kB a9 hb; replace HB := bS HB hb; (try clear hb)) | ((with_reducible refine gD 7 ?_); refine bz 7 #[.int .i64 0, .int .i64 0, .int .i64 0, .int .i64 0, .string (⟨#[]⟩ : ByteArray)] 51 HB ?_; clear HB; intro m9 hg q4 hb e0 m8 HB; have b0 := nL hg a0; have b3 := nG hg a0; replace a0 := kB a0 hb; have b1 := nL hg a1; have b4 := nG hg a1; replace a1 := kB a1 hb; have b2 := nL hg a9; have b5 := nG hg a9; replace a9 := kB a9 hb; clear hb hg; have n4 := b3.out; have o6 := b0.out; have n5 := b4.out; have o7 := b1.out; have n6 := b5.out; have o8 := b2.out; obtain ⟨f1, f2, f3, f4, f5, j1, j2, j3, j4, j5⟩ := y5 e0; obtain ⟨f6, f7, f8, f9, g0, j6, j7, j8, j9, k0⟩ := y5 a9))
   repeat (go_quiet (first | ((with_reducible refine gD 3 ?_); refine bz 3 #[.slice d8 b9.length d9, .int .i64 d0, .int .i64 d1, .int .i64 d2] 49 HB ?_; clear HB; intro d6 hg w8 hb a0 d3 HB; clear hb hg) | ((with_reducible refine gD 4 ?_); refine bz 4 #[.int .i64 b7, .int .i64 c7, .int .i64 b6, .int .i64 c8, .string c9] 51 HB ?_; clear HB; intro d7 hg w9 hb a1 d4 HB; have a3 := nL hg a0; have a5 := nG hg a0; replace a0 := kB a0 hb; clear hb hg) | ((with_reducible refine gD 6 ?_); refine bz 6 #[.int .i64 0, .int .i64 0, .int .i64 0, .int .i64 0, .string (⟨#[]⟩ : ByteArray)] 51 HB ?_; clear HB; intro b8 hg q2 hb a9 d5 HB; have a4 := nL hg a0; have a7 := nG hg a0; replace a0 := kB a0 hb; have a6 := nL hg a1; have a8 := nG hg a1; replace a1 := kB a1 hb; clear hb hg; have n1 := a5.out; have o3 := a3.out; have n2 := a6.out; have o4 := a8.out; obtain ⟨e2, e3, e4, e5, e6, i2, i3, i4, i5, i6⟩ := y5 a1) | (go_at_call 65; (with_reducible refine (Fy.calls k a2 e1 _ A5.out).mono ?_); rintro e w' ⟨rfl, ⟨nd, rfl⟩⟩; (try first | exact ⟨rfl, _, World.drewN_drewN _ _ _⟩ | exact ⟨rfl, _, Eq.trans (World.drewN_drewN _ _ _) (congrArg (World.drewN _) (Nat.add_assoc _ _ _))⟩); have n3 := a4.out; have o5 := a7.out; obtain ⟨e7, e8, e9, f0, i7, i8, i9, j0⟩ := y4 a0) | (go_at_call 60; (with_reducible refine (F5.calls k _ _ b9 d0 d1 d2 b7 c7 b6 c8 c9 b6 m3 m4 m5 m6 m7 p6 _ ?side1 ?side2 A7.out).mono ?_); (case side1 => exact (Kd.C_below m2.out (pB (pB HB.out)))); (case side2 => exact m1.out); rintro e q3 ⟨rfl, hb⟩; replace a0 := kB a0 hb; replace a1 := kB a1 hb; replace a9 := kB a9 hb; replace HB := bS HB hb; (try clear hb)) | ((with_reducible refine gD 7 ?_); refine bz 7 #[.int .i64 0, .int .i64 0, .int .i64 0, .int .i64 0, .string (⟨#[]⟩ : ByteArray)] 51 HB ?_; clear HB; intro m9 hg q4 hb e0 m8 HB; have b0 := nL hg a0; have b3 := nG hg a0; replace a0 := kB a0 hb; have b1 := nL hg a1; have b4 := nG hg a1; replace a1 := kB a1 hb; have b2 := nL hg a9; have b5 := nG hg a9; replace a9 := kB a9 hb; clear hb hg; have n4 := b3.out; have o6 := b0.out; have n5 := b4.out; have o7 := b1.out; have n6 := b5.out; have o8 := b2.out; obtain ⟨f1, f2, f3, f4, f5, j1, j2, j3, j4, j5⟩ := y5 e0; obtain ⟨f6, f7, f8, f9, g0, j6, j7, j8, j9, k0⟩ := y5 a9)); try go_wp2_with (first | ((with_reducible refine gD 3 ?_); refine bz 3 #[.slice d8 b9.length d9, .int .i64 d0, .int .i64 d1, .int .i64 d2] 49 HB ?_; clear HB; intro d6 hg w8 hb a0 d3 HB; clear hb hg) | ((with_reducible refine gD 4 ?_); refine bz 4 #[.int .i64 b7, .int .i64 c7, .int .i64 b6, .int .i64 c8, .string c9] 51 HB ?_; clear HB; intro d7 hg w9 hb a1 d4 HB; have a3 := nL hg a0; have a5 := nG hg a0; replace a0 := kB a0 hb; clear hb hg) | ((with_reducible refine gD 6 ?_); refine bz 6 #[.int .i64 0, .int .i64 0, .int .i64 0, .int .i64 0, .string (⟨#[]⟩ : ByteArray)] 51 HB ?_; clear HB; intro b8 hg q2 hb a9 d5 HB; have a4 := nL hg a0; have a7 := nG hg a0; replace a0 := kB a0 hb; have a6 := nL hg a1; have a8 := nG hg a1; replace a1 := kB a1 hb; clear hb hg; have n1 := a5.out; have o3 := a3.out; have n2 := a6.out; have o4 := a8.out; obtain ⟨e2, e3, e4, e5, e6, i2, i3, i4, i5, i6⟩ := y5 a1) | (go_at_call 65; (with_reducible refine (Fy.calls k a2 e1 _ A5.out).mono ?_); rintro e w' ⟨rfl, ⟨nd, rfl⟩⟩; (try first | exact ⟨rfl, _, World.drewN_drewN _ _ _⟩ | exact ⟨rfl, _, Eq.trans (World.drewN_drewN _ _ _) (congrArg (World.drewN _) (Nat.add_assoc _ _ _))⟩); have n3 := a4.out; have o5 := a7.out; obtain ⟨e7, e8, e9, f0, i7, i8, i9, j0⟩ := y4 a0) | (go_at_call 60; (with_reducible refine (F5.calls k _ _ b9 d0 d1 d2 b7 c7 b6 c8 c9 b6 m3 m4 m5 m6 m7 p6 _ ?side1 ?side2 A7.out).mono ?_); (case side1 => exact (Kd.C_below m2.out (pB (pB HB.out)))); (case side2 => exact m1.out); rintro e q3 ⟨rfl, hb⟩; replace a0 := kB a0 hb; replace a1 := kB a1 hb; replace a9 := kB a9 hb; replace HB := bS HB hb; (try clear hb)) | ((with_reducible refine gD 7 ?_); refine bz 7 #[.int .i64 0, .int .i64 0, .int .i64 0, .int .i64 0, .string (⟨#[]⟩ : ByteArray)] 51 HB ?_; clear HB; intro m9 hg q4 hb e0 m8 HB; have b0 := nL hg a0; have b3 := nG hg a0; replace a0 := kB a0 hb; have b1 := nL hg a1; have b4 := nG hg a1; replace a1 := kB a1 hb; have b2 := nL hg a9; have b5 := nG hg a9; replace a9 := kB a9 hb; clear hb hg; have n4 := b3.out; have o6 := b0.out; have n5 := b4.out; have o7 := b1.out; have n6 := b5.out; have o8 := b2.out; obtain ⟨f1, f2, f3, f4, f5, j1, j2, j3, j4, j5⟩ := y5 e0; obtain ⟨f6, f7, f8, f9, g0, j6, j7, j8, j9, k0⟩ := y5 a9)))
   refine bodyPost_ret (results_cell_row rfl _ _ b8 51 #[.int .i64 m3, .int .i64 m4, .int .i64 m5, .int .i64 m6, .string m7] (0, 0) _ rfl (pP a9.out) Try.underlying51 rfl (by kernel_rfl)) rfl ?_
   exact ⟨er, pB HB.out⟩
  rw [if_neg c6] at H
  have p9 := decide_eq_false c6
  clear c6
  simp only [Option.some.injEq, Prod.mk.injEq] at H
  obtain ⟨rfl, rfl, rfl, rfl, rfl⟩ := H
  go_enter Try.func49, Try.ntmps49
  go_wp2_with (first | ((with_reducible refine gD 3 ?_); refine bz 3 #[.slice d8 b9.length d9, .int .i64 d0, .int .i64 d1, .int .i64 d2] 49 HB ?_; clear HB; intro d6 hg q5 hb a0 d3 HB; clear hb hg) | ((with_reducible refine gD 4 ?_); refine bz 4 #[.int .i64 b7, .int .i64 c7, .int .i64 b6, .int .i64 c8, .string c9] 51 HB ?_; clear HB; intro d7 hg q6 hb a1 d4 HB; have a3 := nL hg a0; have a5 := nG hg a0; replace a0 := kB a0 hb; clear hb hg) | ((with_reducible refine gD 6 ?_); refine bz 6 #[.int .i64 0, .int .i64 0, .int .i64 0, .int .i64 0, .string (⟨#[]⟩ : ByteArray)] 51 HB ?_; clear HB; intro b8 hg q7 hb a9 d5 HB; have a4 := nL hg a0; have a7 := nG hg a0; replace a0 := kB a0 hb; have a6 := nL hg a1; have a8 := nG hg a1; replace a1 := kB a1 hb; clear hb hg; have n7 := a5.out; have o9 := a3.out; have n8 := a6.out; have p0 := a8.out; obtain ⟨g1, g2, g3, g4, g5, k1, k2, k3, k4, k5⟩ := y5 a1) | (go_at_call 65; (with_reducible refine (Fy.calls k a2 e1 _ A5.out).mono ?_); rintro e w' ⟨rfl, ⟨nd, rfl⟩⟩; (try first | exact ⟨rfl, _, World.drewN_drewN _ _ _⟩ | exact ⟨rfl, _, Eq.trans (World.drewN_drewN _ _ _) (congrArg (World.drewN _) (Nat.add_assoc _ _ _))⟩); have n9 := a7.out; have p1 := a4.out; obtain ⟨g6, g7, g8, g9, h0, k6, k7, k8, k9, l0⟩ := y5 a9))
  repeat (go_quiet (first | ((with_reducible refine gD 3 ?_); refine bz 3 #[.slice d8 b9.length d9, .int .i64 d0, .int .i64 d1, .int .i64 d2] 49 HB ?_; clear HB; intro d6 hg q5 hb a0 d3 HB; clear hb hg) | ((with_reducible refine gD 4 ?_); refine bz 4 #[.int .i64 b7, .int .i64 c7, .int .i64 b6, .int .i64 c8, .string c9] 51 HB ?_; clear HB; intro d7 hg q6 hb a1 d4 HB; have a3 := nL hg a0; have a5 := nG hg a0; replace a0 := kB a0 hb; clear hb hg) | ((with_reducible refine gD 6 ?_); refine bz 6 #[.int .i64 0, .int .i64 0, .int .i64 0, .int .i64 0, .string (⟨#[]⟩ : ByteArray)] 51 HB ?_; clear HB; intro b8 hg q7 hb a9 d5 HB; have a4 := nL hg a0; have a7 := nG hg a0; replace a0 := kB a0 hb; have a6 := nL hg a1; have a8 := nG hg a1; replace a1 := kB a1 hb; clear hb hg; have n7 := a5.out; have o9 := a3.out; have n8 := a6.out; have p0 := a8.out; obtain ⟨g1, g2, g3, g4, g5, k1, k2, k3, k4, k5⟩ := y5 a1) | (go_at_call 65; (with_reducible refine (Fy.calls k a2 e1 _ A5.out).mono ?_); rintro e w' ⟨rfl, ⟨nd, rfl⟩⟩; (try first | exact ⟨rfl, _, World.drewN_drewN _ _ _⟩ | exact ⟨rfl, _, Eq.trans (World.drewN_drewN _ _ _) (congrArg (World.drewN _) (Nat.add_assoc _ _ _))⟩); have n9 := a7.out; have p1 := a4.out; obtain ⟨g6, g7, g8, g9, h0, k6, k7, k8, k9, l0⟩ := y5 a9)); try go_wp2_with (first | ((with_reducible refine gD 3 ?_); refine bz 3 #[.slice d8 b9.length d9, .int .i64 d0, .int .i64 d1, .int .i64 d2] 49 HB ?_; clear HB; intro d6 hg q5 hb a0 d3 HB; clear hb hg) | ((with_reducible refine gD 4 ?_); refine bz 4 #[.int .i64 b7, .int .i64 c7, .int .i64 b6, .int .i64 c8, .string c9] 51 HB ?_; clear HB; intro d7 hg q6 hb a1 d4 HB; have a3 := nL hg a0; have a5 := nG hg a0; replace a0 := kB a0 hb; clear hb hg) | ((with_reducible refine gD 6 ?_); refine bz 6 #[.int .i64 0, .int .i64 0, .int .i64 0, .int .i64 0, .string (⟨#[]⟩ : ByteArray)] 51 HB ?_; clear HB; intro b8 hg q7 hb a9 d5 HB; have a4 := nL hg a0; have a7 := nG hg a0; replace a0 := kB a0 hb; have a6 := nL hg a1; have a8 := nG hg a1; replace a1 := kB a1 hb; clear hb hg; have n7 := a5.out; have o9 := a3.out; have n8 := a6.out; have p0 := a8.out; obtain ⟨g1, g2, g3, g4, g5, k1, k2, k3, k4, k5⟩ := y5 a1) | (go_at_call 65; (with_reducible refine (Fy.calls k a2 e1 _ A5.out).mono ?_); rintro e w' ⟨rfl, ⟨nd, rfl⟩⟩; (try first | exact ⟨rfl, _, World.drewN_drewN _ _ _⟩ | exact ⟨rfl, _, Eq.trans (World.drewN_drewN _ _ _) (congrArg (World.drewN _) (Nat.add_assoc _ _ _))⟩); have n9 := a7.out; have p1 := a4.out; obtain ⟨g6, g7, g8, g9, h0, k6, k7, k8, k9, l0⟩ := y5 a9)))
  refine bodyPost_ret (results_cell_row rfl _ _ b8 51 #[.int .i64 b7, .int .i64 c7, .int .i64 b6, .int .i64 c8, .string c9] (0, 0) _ rfl (pP a9.out) Try.underlying51 rfl (by kernel_rfl)) rfl ?_
  exact ⟨er, pB HB.out⟩
 rw [if_neg c4] at H
 obtain ⟨p7, p8⟩ := qf c4
 simp only [Option.some.injEq, Prod.mk.injEq] at H
 obtain ⟨rfl, rfl, rfl, rfl, rfl⟩ := H
 go_enter Try.func49, Try.ntmps49
 go_wp2_with (first | ((with_reducible refine gD 3 ?_); refine bz 3 #[.slice d8 b9.length d9, .int .i64 d0, .int .i64 d1, .int .i64 d2] 49 HB ?_; clear HB; intro d6 hg q8 hb a0 d3 HB; clear hb hg) | ((with_reducible refine gD 4 ?_); refine bz 4 #[.int .i64 b7, .int .i64 c7, .int .i64 b6, .int .i64 c8, .string c9] 51 HB ?_; clear HB; intro d7 hg q9 hb a1 d4 HB; have a3 := nL hg a0; have a5 := nG hg a0; replace a0 := kB a0 hb; clear hb hg) | ((with_reducible refine gD 6 ?_); refine bz 6 #[.int .i64 0, .int .i64 0, .int .i64 0, .int .i64 0, .string (⟨#[]⟩ : ByteArray)] 51 HB ?_; clear HB; intro b8 hg r0 hb a9 d5 HB; have a4 := nL hg a0; have a7 := nG hg a0; replace a0 := kB a0 hb; have a6 := nL hg a1; have a8 := nG hg a1; replace a1 := kB a1 hb; clear hb hg; have o0 := a5.out; have p2 := a3.out; have o1 := a6.out; have p3 := a8.out; obtain ⟨h2, h3, h4, h5, h6, l1, l2, l3, l4, l5⟩ := y5 a1; have o2 := a7.out; have p4 := a4.out; obtain ⟨h7, h8, h9, i0, i1, l6, l7, l8, l9, m0⟩ := y5 a9))
 repeat (go_quiet (first | ((with_reducible refine gD 3 ?_); refine bz 3 #[.slice d8 b9.length d9, .int .i64 d0, .int .i64 d1, .int .i64 d2] 49 HB ?_; clear HB; intro d6 hg q8 hb a0 d3 HB; clear hb hg) | ((with_reducible refine gD 4 ?_); refine bz 4 #[.int .i64 b7, .int .i64 c7, .int .i64 b6, .int .i64 c8, .string c9] 51 HB ?_; clear HB; intro d7 hg q9 hb a1 d4 HB; have a3 := nL hg a0; have a5 := nG hg a0; replace a0 := kB a0 hb; clear hb hg) | ((with_reducible refine gD 6 ?_); refine bz 6 #[.int .i64 0, .int .i64 0, .int .i64 0, .int .i64 0, .string (⟨#[]⟩ : ByteArray)] 51 HB ?_; clear HB; intro b8 hg r0 hb a9 d5 HB; have a4 := nL hg a0; have a7 := nG hg a0; replace a0 := kB a0 hb; have a6 := nL hg a1; have a8 := nG hg a1; replace a1 := kB a1 hb; clear hb hg; have o0 := a5.out; have p2 := a3.out; have o1 := a6.out; have p3 := a8.out; obtain ⟨h2, h3, h4, h5, h6, l1, l2, l3, l4, l5⟩ := y5 a1; have o2 := a7.out; have p4 := a4.out; obtain ⟨h7, h8, h9, i0, i1, l6, l7, l8, l9, m0⟩ := y5 a9)); try go_wp2_with (first | ((with_reducible refine gD 3 ?_); refine bz 3 #[.slice d8 b9.length d9, .int .i64 d0, .int .i64 d1, .int .i64 d2] 49 HB ?_; clear HB; intro d6 hg q8 hb a0 d3 HB; clear hb hg) | ((with_reducible refine gD 4 ?_); refine bz 4 #[.int .i64 b7, .int .i64 c7, .int .i64 b6, .int .i64 c8, .string c9] 51 HB ?_; clear HB; intro d7 hg q9 hb a1 d4 HB; have a3 := nL hg a0; have a5 := nG hg a0; replace a0 := kB a0 hb; clear hb hg) | ((with_reducible refine gD 6 ?_); refine bz 6 #[.int .i64 0, .int .i64 0, .int .i64 0, .int .i64 0, .string (⟨#[]⟩ : ByteArray)] 51 HB ?_; clear HB; intro b8 hg r0 hb a9 d5 HB; have a4 := nL hg a0; have a7 := nG hg a0; replace a0 := kB a0 hb; have a6 := nL hg a1; have a8 := nG hg a1; replace a1 := kB a1 hb; clear hb hg; have o0 := a5.out; have p2 := a3.out; have o1 := a6.out; have p3 := a8.out; obtain ⟨h2, h3, h4, h5, h6, l1, l2, l3, l4, l5⟩ := y5 a1; have o2 := a7.out; have p4 := a4.out; obtain ⟨h7, h8, h9, i0, i1, l6, l7, l8, l9, m0⟩ := y5 a9)))
 refine bodyPost_ret (results_cell_row rfl _ _ b8 51 #[.int .i64 b7, .int .i64 c7, .int .i64 b6, .int .i64 c8, .string c9] (0, 0) _ rfl (pP a9.out) Try.underlying51 rfl (by kernel_rfl)) rfl ?_
 exact ⟨er, pB HB.out⟩
def Fk.l0 : Nat → Int → Int → Int → ByteArray → ByteArray → List (S49) → Int → List (S51) → Option (ByteArray × ByteArray × (List (S49)) × Int × (List (S51)))
 | 0, _, _, _, _, _, _, _, _ => none
 | k + 1, x1, x8, x9, a3, a4, a1, a5, a0 => if x9 < x8 then ((Fl.f k a3 a4 a1 a5 a0 x1).bind fun a2 => (if a2 ≥ 0 then (if 0 ≤ a2 then (if a2 < (a1.length : Int) then (if a2 < (a0.length : Int) then ((Ge.f k ((q0d a1 a2).f0) ((q0d a1 a2).f1) ((q0d a1 a2).f2) ((q0d a1 a2).f3) ((q0a a0 a2).f0) ((q0a a0 a2).f1) ((q0a a0 a2).f2) ((q0a a0 a2).f3) ((q0a a0 a2).f4) x1).bind fun a6 => ((Fo.f k a3 a4 a1 a5 a0 a2 a6.1 a6.2.1 a6.2.2.1 a6.2.2.2.1 a6.2.2.2.2).bind fun a7 => ((Fg.f k a7.1 a7.2.1 a7.2.2.1 a7.2.2.2.1 a7.2.2.2.2).bind fun a8 => (Fk.l0 k x1 x8 (wrap64 (x9 + 1)) a8.1 a8.2.1 a8.2.2.1 a8.2.2.2.1 a8.2.2.2.2)))) else (none)) else (none)) else (none)) else (Fk.l0 k x1 x8 (wrap64 (x9 + 1)) a3 a4 a1 a5 a0))) else (some (a3, a4, a1, a5, a0))
def Fk.f (k : Nat) (a2 : ByteArray) (a3 : ByteArray) (a5 : List (S49)) (a4 : Int) (a0 : List (S51)) (a1 : Int) : Option (ByteArray × ByteArray × (List (S49)) × Int × (List (S51))) := Fk.l0 k a1 (a0.length : Int) 0 a2 a3 a5 a4 a0
def Fk.T5 : Bool × List (List Nat × List Nat) := (true, [([], []), ([], []), ([], []), ([2], [2]), ([3], [3]), ([], []), ([4, 5], [4, 5]), ([6], [6]), ([], []), ([8], [8]), ([], []), ([9, 10], [9, 10]), ([11], [11]), ([], []), ([7, 12, 13], [7, 12, 13]), ([0, 1, 14, 14], [0, 1, 14]), ([15, 15], [15]), ([16, 16, 0, 1, 2, 3, 4, 5, 6, 7, 8, 9, 10, 11, 12, 13, 14, 15, 16], [16])])
def Fk.B5 : List Nat := [0, 0, 0, 4, 12, 0, 60, 124, 0, 256, 0, 1792, 3840, 0, 16380, 32767, 65535, 131071]
theorem Fk.tab5 : rtab .any (opsOf Try.f18 5) = Fk.T5 := by kernel_rfl
theorem Fk.bits5 : q3k Fk.T5.2 Fk.B5 = true := by kernel_rfl
set_option maxHeartbeats 8000000 in
set_option maxRecDepth 100000 in
theorem Fk.calls (k : Nat) (i0 : ByteArray) (i1 : ByteArray) (b8 : Nat → Prop) (g5 : Option Addr) (h4 : Nat) (d7 : List (S49)) (i2 : Int) (b9 : Nat → Prop) (g6 : Option Addr) (h5 : Nat) (d3 : List (S51)) (a1 : Int) (r1 : ByteArray) (r2 : ByteArray) (r3 : List (S49)) (r4 : Int) (r5 : List (S51)) (w : World) (m6 : Kd.V k49 49 w w.heap.size (fun k_ => b8 k_) (.slice g5 d7.length h4) d7) (m7 : Kd.V k51 51 w w.heap.size (fun k_ => b9 k_) (.slice g6 d3.length h5) d3) (h : Fk.f k i0 i1 d7 i2 d3 a1 = some (r1, r2, r3, r4, r5)) :
  Calls Try.prog 18 #[.agg #[.string i0, .string i1, .slice g5 d7.length h4, .int .i64 i2, .slice g6 d3.length h5], .int .i64 a1] w fun e w' => ∃ t5 t6 : Value, e = .returned (.agg #[.string r1, .string r2, t5, .int .i64 r4, t6]) ∧ Kd.V k49 49 w' w.heap.size (fun k_ => ((b8 k_ ∨ b9 k_) ∨ w.heap.size ≤ k_)) t5 r3 ∧ Kd.V k51 51 w' w.heap.size (fun k_ => ((b8 k_ ∨ b9 k_) ∨ w.heap.size ≤ k_)) t6 r5 ∧ Below w.heap.size w w' := by
 have u6 := Try.underlying27
 have u7 := Try.underlying49
 have u8 := Try.underlying51
 have e1 := am (show Kd.V k49 49 w w.heap.size (fun k_ => ((b8 k_ ∨ b9 k_) ∨ w.heap.size ≤ k_)) (.slice g5 d7.length h4) d7 from Kd.V_mono m6 (fun k_ hk => .inl (.inl hk)))
 have e2 := am (show Kd.V k51 51 w w.heap.size (fun k_ => ((b8 k_ ∨ b9 k_) ∨ w.heap.size ≤ k_)) (.slice g6 d3.length h5) d3 from Kd.V_mono m7 (fun k_ hk => .inl (.inr hk)))
 have HB := am (Below.refl w.heap.size w)
 unfold Fk.f at h
 have H := h
 clear h
 have H' := am H
 clear H
 go_enter Try.func18, Try.ntmps18
 go_wp2_with (first | ((with_reducible refine gD 2 ?_); refine bz 2 #[.string i0, .string i1, .slice g5 d7.length h4, .int .i64 i2, .slice g6 d3.length h5] 27 HB ?_; clear HB; intro b4 hg w3 hb a3 s1 HB; replace e1 := vE e1 hg hb; replace e2 := vE e2 hg hb; clear hb hg) | ((with_reducible refine gD 4 ?_); refine bz 4 #[.string (⟨#[]⟩ : ByteArray), .string (⟨#[]⟩ : ByteArray), .slice none 0 0, .int .i64 0, .slice none 0 0] 27 HB ?_; clear HB; intro d1 hg w4 hb b1 s2 HB; replace e1 := vE e1 hg hb; replace e2 := vE e2 hg hb; have b2 := nL hg a3; have b5 := nG hg a3; replace a3 := kB a3 hb; clear hb hg; have u0 := nn b2; have j6 := y5 a3))
 go_loopg [9] k (fun kq v9 w' => ∃ (g4 : Int) (a8 : ByteArray) (a9 : ByteArray) (a2 : List (S49)) (b0 : Int) (a0 : List (S51)) (d8 : Value) (d9 : Value), v9 = .int .i64 g4 ∧ q0e (Fk.l0 kq a1 (d3.length : Int) g4 a8 a9 a2 b0 a0 = some (r1, r2, r3, r4, r5)) ∧ q0e (kq ≤ k) ∧ q0e (Kd.V k49 49 w' w.heap.size (fun k_ => ((b8 k_ ∨ b9 k_) ∨ w.heap.size ≤ k_) ∧ k_ ≠ b4 ∧ k_ ≠ d1) d8 a2) ∧ q0e (Kd.V k51 51 w' w.heap.size (fun k_ => ((b8 k_ ∨ b9 k_) ∨ w.heap.size ≤ k_) ∧ k_ ≠ b4 ∧ k_ ≠ d1) d9 a0) ∧ q0e (w'.heap[b4]? = some (.cells #[.string a8, .string a9, d8, .int .i64 b0, d9] 27 (0, 0))) ∧ q0e (w'.heap[d1]? = some (.cells #[.string (⟨#[]⟩ : ByteArray), .string (⟨#[]⟩ : ByteArray), (.slice none 0 0), .int .i64 0, (.slice none 0 0)] 27 (0, 0))) ∧ q0e (Below w.heap.size w w'))
 case atStart => exact ⟨(0), (i0), (i1), (d7), (i2), (d3), (.slice g5 d7.length h4), (.slice g6 d3.length h5), el, H', ⟨Nat.le_refl _⟩, (vM e1), (vM e2), ⟨pk a3.out⟩, ⟨pk b1.out⟩, ⟨pB HB.out⟩⟩
 case round =>
  clear H'
  try clear j6
  try clear a3; try clear b1; try clear HB
  obtain ⟨g4, a8, a9, a2, b0, a0, d8, d9, rfl, HA, n2, a5, a6, a3, b1, HB⟩ := hrel
  cases gk with
  | zero => exact absurd HA.out (by simp [Fk.l0])
  | succ k1 =>
   have H := HA.out
   clear HA
   simp only [Fk.l0] at H
   by_cases c7 : g4 < (d3.length : Int)
   ·
    rw [if_pos c7] at H
    have p9 := decide_eq_true c7
    clear c7
    replace H := Option.bind_eq_some_iff.mp H
    obtain ⟨a7, s0, H⟩ := H
    try dsimp only at H
    have A8 := am s0
    clear s0
    by_cases c9 : a7 ≥ 0
    ·
     rw [if_pos c9] at H
     have q0 := decide_eq_true c9
     clear c9
     by_cases n3 : 0 ≤ a7
     ·
      rw [if_pos n3] at H
      have s3 := decide_eq_true n3
      clear n3
      by_cases n4 : a7 < (a2.length : Int)
      ·
       rw [if_pos n4] at H
       have s4 := decide_eq_true n4
       clear n4
       by_cases n5 : a7 < (a0.length : Int)
       ·
        rw [if_pos n5] at H
        have s5 := decide_eq_true n5
        clear n5
        replace H := Option.bind_eq_some_iff.mp H
        obtain ⟨⟨j9, k0, k2, k3, k4⟩, l2, H⟩ := H
        try dsimp only at H
        have t7 := am l2
        clear l2
        replace H := Option.bind_eq_some_iff.mp H
        obtain ⟨⟨k5, k6, k7, k8, h8⟩, l3, H⟩ := H
        try dsimp only at H
        have t8 := am l3
        clear l3
        replace H := Option.bind_eq_some_iff.mp H
        obtain ⟨⟨m8, m9, k9, n0, l1⟩, l4, H⟩ := H
        try dsimp only at H
        have t9 := am l4
        clear l4
        have H' := am H
        clear H
        have t2 := nn b2
        have n6 := y5 a3
        obtain ⟨p2, i3, q8⟩ := Kd.V_slice a5.out
        subst q8
        obtain ⟨p3, i4, q9⟩ := Kd.V_slice a6.out
        subst q9
        try go_wp2_with (first | ((with_reducible refine gC 47 ?_); refine gL 13 Try.func47 #[.agg #[.string a8, .string a9, .slice p2 a2.length i3, .int .i64 b0, .slice p3 a0.length i4], .int .i64 a1] ?_; (with_reducible refine (Fl.calls k1 a8 a9 _ _ a2 b0 _ _ a0 a1 a7 _ ?side1 ?side2 ?side3 ?side4 A8.out).mono ?_); (case side1 => exact pC ((Kd.V_reads' a5.out).2.2)); (case side2 => exact (Kd.V_reads' a5.out).2.1); (case side3 => exact pC ((Kd.V_reads' a6.out).2.2)); (case side4 => exact (Kd.V_reads' a6.out).2.1); rintro e v2 ⟨rfl, hb⟩; refine ⟨_, rfl, ?_⟩; replace a5 := vB a5 hb; replace a6 := vB a6 hb; replace a3 := kB a3 hb; replace b1 := kB b1 hb; replace HB := bS HB hb; (try clear hb)))
        replace a5 := am (Kd.V_drew a5.out)
        replace a6 := am (Kd.V_drew a6.out)
        replace a3 := am (q0g a3.out)
        replace b1 := am (q0g b1.out)
        replace HB := am (q0b HB.out)
        have i5 : 0 ≤ (a7 : Int) := od
        have i6 : a7 < (a2.length : Int) := od
        obtain ⟨d0, g7, h6, q6, d6, f5, f6, f7, e9, e8⟩ := q1r (Kd.V_reads' a5.out).2.2 a7 i5 i6
        cases q6
        obtain ⟨s6, j5, j4, h7⟩ := Kd.V_get a5.out z49 a7 i5 (by first | exact i6 | exact of_decide_eq_true (by first | (with_reducible assumption) | assumption) | (have e_ := (Kd.V_reads' a5.out).1; omega))
        obtain ⟨p0, p1, rfl, e0, d5⟩ := k49_openF j4
        have d2 := h7 0 _ rfl
        rw [Nat.add_zero] at d2
        replace d2 := Option.some.inj (d2.symm.trans d6)
        injection d2 with hva_ hvn_ hvc_
        rw [hva_] at d5
        rw [hvc_] at e0
        have b7 := am (show Kd.V (Kd.int .i64) 3 _ w.heap.size _ _ ((q0d a2 a7).f0) from Kd.V_mk e0 d5)
        clear hva_ hvn_ hvc_ d5 e0 h7 j5
        have b3 := am e8
        have h9 := am e9
        clear e8 e9
        replace i5 := eq_true i5
        replace i6 := eq_true i6
        have j7 : 0 ≤ (a7 : Int) := od
        have j8 : a7 < (a0.length : Int) := od
        obtain ⟨c6, q7, f8, f9, g0, g1, g2⟩ := q1i (Kd.V_reads' a6.out).2.2 a7 j7 j8
        cases q7
        replace j7 := eq_true j7
        replace j8 := eq_true j8
        refine q2j (n := 18) (S := fun w' => w'.cell? ⟨b4, 0, none⟩ = some (.string a8) ∧ w'.cell? ⟨b4, 1, none⟩ = some (.string a9) ∧ w'.cell? ⟨b4, 2, none⟩ = some (.slice (some d0) a2.length i3) ∧ w'.cell? ⟨b4, 3, none⟩ = some (.int .i64 b0) ∧ w'.cell? ⟨b4, 4, none⟩ = some (.slice (some c6) a0.length i4) ∧ w'.cell? (d0.add ((a7).toNat * 4)) = some (.slice g7 ((q0d a2 a7).f0).length h6) ∧ w'.cell? ⟨(d0.add ((a7).toNat * 4)).block, (d0.add ((a7).toNat * 4)).off + 1, none⟩ = some (.int .i64 ((q0d a2 a7).f1)) ∧ w'.cell? ⟨(d0.add ((a7).toNat * 4)).block, (d0.add ((a7).toNat * 4)).off + 2, none⟩ = some (.int .i64 ((q0d a2 a7).f2)) ∧ w'.cell? ⟨(d0.add ((a7).toNat * 4)).block, (d0.add ((a7).toNat * 4)).off + 3, none⟩ = some (.int .i64 ((q0d a2 a7).f3)) ∧ w'.cell? (c6.add ((a7).toNat * 5)) = some (.int .i64 ((q0a a0 a7).f0)) ∧ w'.cell? ⟨(c6.add ((a7).toNat * 5)).block, (c6.add ((a7).toNat * 5)).off + 1, none⟩ = some (.int .i64 ((q0a a0 a7).f1)) ∧ w'.cell? ⟨(c6.add ((a7).toNat * 5)).block, (c6.add ((a7).toNat * 5)).off + 2, none⟩ = some (.int .i64 ((q0a a0 a7).f2)) ∧ w'.cell? ⟨(c6.add ((a7).toNat * 5)).block, (c6.add ((a7).toNat * 5)).off + 3, none⟩ = some (.int .i64 ((q0a a0 a7).f3)) ∧ w'.cell? ⟨(c6.add ((a7).toNat * 5)).block, (c6.add ((a7).toNat * 5)).off + 4, none⟩ = some (.string ((q0a a0 a7).f4))) (ds := [17]) (ba 18 0) (by kernel_rfl) rfl rfl ⟨bc a3.out, bc a3.out, bc a3.out, bc a3.out, bc a3.out, d6, f5, f6, f7, f8, f9, g0, g1, g2⟩ (fun a4 => ?_); refine q2m Fk.tab5 Fk.bits5 (fun d4 l7 => ?_)
        generalize v2.drew = v3 at a5 a6 a3 b1 HB b7 b3 d6 f5 f6 f7 f8 f9 g0 g1 g2 a4 ⊢
        refine pu 1 17 (ba 18 2) d4 ?_
        refine pu 2 18 (ba 18 6) d4 ?_
        refine pu 3 19 (ba 18 14) d4 ?_
        refine pu 5 21 (ba 18 46) d4 ?_
        refine pu 8 24 (ba 18 302) d4 ?_
        refine pu 10 26 (ba 18 1326) d4 ?_
        refine pu 13 29 (ba 18 9518) d4 ?_
        refine tk 0 16 (ba 18 9519) d4 l7 a4 ?_
        refine tk 4 20 (ba 18 9535) d4 l7 a4 ?_
        refine pu 6 22 (ba 18 9599) d4 ?_
        refine tk 7 23 (ba 18 9727) d4 l7 a4 ?_
        refine tk 9 25 (ba 18 10239) d4 l7 a4 ?_
        refine pu 11 27 (ba 18 12287) d4 ?_
        refine tk 12 28 (ba 18 16383) d4 l7 a4 ?_
        refine one_ (i := 14) (N := some 30) (ba 18 32767) rfl rfl (q3i d4.out (by kernel_rfl)) (by decide) (fun K hK => ?_)
        refine q1v Try.func49 (by kernel_rfl) rfl #[.agg #[.slice g7 ((q0d a2 a7).f0).length h6, .int .i64 ((q0d a2 a7).f1), .int .i64 ((q0d a2 a7).f2), .int .i64 ((q0d a2 a7).f3)], .agg #[.int .i64 ((q0a a0 a7).f0), .int .i64 ((q0a a0 a7).f1), .int .i64 ((q0a a0 a7).f2), .int .i64 ((q0a a0 a7).f3), .string ((q0a a0 a7).f4)], .int .i64 a1] (by rfl) rfl rfl (by (try simp only [List.map_toArray, List.map_cons, List.map_nil]); first | done | rfl | (simp only [List.length_drop, List.length_take]; rfl)) ?_
        with_reducible refine (Ge.calls k1 _ _ ((q0d a2 a7).f0) ((q0d a2 a7).f1) ((q0d a2 a7).f2) ((q0d a2 a7).f3) ((q0a a0 a7).f0) ((q0a a0 a7).f1) ((q0a a0 a7).f2) ((q0a a0 a7).f3) ((q0a a0 a7).f4) a1 j9 k0 k2 k3 k4 _ ?side1 ?side2 t7.out).mono ?_
        (case side1 => repeat (first | exact (by repeat (first | (with_reducible exact b3.out) | (with_reducible refine Kd.C_alloc ?_ _) | (with_reducible refine Kd.C_drewN ?_ _) | (with_reducible refine Kd.C_drew ?_) | exact b3.out)) | (with_reducible refine Kd.C_alloc ?_ _) | (with_reducible refine Kd.C_drewN ?_ _) | (with_reducible refine Kd.C_drew ?_)))
        (case side2 => exact h9.out)
        rintro e v4 ⟨rfl, hb⟩
        have g8 := (hb.cell (World.block_lt_of_cell? _ _ (a4.2.2.2.2.2.1))).trans (a4.2.2.2.2.2.1)
        have g9 := (hb.cell (World.block_lt_of_cell? _ _ (a4.2.2.2.2.2.2.1))).trans (a4.2.2.2.2.2.2.1)
        have h0 := (hb.cell (World.block_lt_of_cell? _ _ (a4.2.2.2.2.2.2.2.1))).trans (a4.2.2.2.2.2.2.2.1)
        have h2 := (hb.cell (World.block_lt_of_cell? _ _ (a4.2.2.2.2.2.2.2.2.1))).trans (a4.2.2.2.2.2.2.2.2.1)
        have h3 := (hb.cell (World.block_lt_of_cell? _ _ (a4.2.2.2.2.2.2.2.2.2.1))).trans (a4.2.2.2.2.2.2.2.2.2.1)
        have e3 := (hb.cell (World.block_lt_of_cell? _ _ (a4.2.2.2.2.2.2.2.2.2.2.1))).trans (a4.2.2.2.2.2.2.2.2.2.2.1)
        have e4 := (hb.cell (World.block_lt_of_cell? _ _ (a4.2.2.2.2.2.2.2.2.2.2.2.1))).trans (a4.2.2.2.2.2.2.2.2.2.2.2.1)
        have e5 := (hb.cell (World.block_lt_of_cell? _ _ (a4.2.2.2.2.2.2.2.2.2.2.2.2.1))).trans (a4.2.2.2.2.2.2.2.2.2.2.2.2.1)
        have e6 := (hb.cell (World.block_lt_of_cell? _ _ (a4.2.2.2.2.2.2.2.2.2.2.2.2.2))).trans (a4.2.2.2.2.2.2.2.2.2.2.2.2.2)
        refine ⟨_, rfl, ?_⟩
        replace a5 := vB a5 hb
        replace a6 := vB a6 hb
        replace b7 := vB b7 hb
        replace a3 := kB a3 hb
        replace b1 := kB b1 hb
        replace b3 := am (Kd.C_below (by repeat (first | (with_reducible exact b3.out) | (with_reducible refine Kd.C_alloc ?_ _) | (with_reducible refine Kd.C_drewN ?_ _) | (with_reducible refine Kd.C_drew ?_) | exact b3.out)) hb)
        replace HB := bS HB hb
        (try clear hb)
        (try clear hb2)
        (try clear hk)
        (try clear hi)
        refine hK.out _ _ ⟨bc a3.out, bc a3.out, bc a3.out, bc a3.out, bc a3.out, g8, g9, h0, h2, h3, e3, e4, e5, e6⟩ (fun a4 => ?_)
        clear hK K
        refine nh ?_
        refine one_ (i := 15) (N := some 31) (ba 18 65535) rfl rfl (q3i d4.out (by kernel_rfl)) (by decide) (fun K hK => ?_)
        refine q1v Try.func48 (by kernel_rfl) rfl #[.agg #[.string a8, .string a9, .slice (some d0) a2.length i3, .int .i64 b0, .slice (some c6) a0.length i4], .int .i64 a7, .agg #[.int .i64 j9, .int .i64 k0, .int .i64 k2, .int .i64 k3, .string k4]] (by rfl) rfl rfl (by (try simp only [List.map_toArray, List.map_cons, List.map_nil]); first | done | rfl | (simp only [List.length_drop, List.length_take]; rfl)) ?_
        with_reducible refine (Fo.calls k1 a8 a9 (fun k_ => (((b8 k_ ∨ b9 k_) ∨ w.heap.size ≤ k_) ∧ (k_ ≠ b4 ∧ k_ ≠ d1))) _ _ a2 b0 _ _ a0 a7 j9 k0 k2 k3 k4 k5 k6 k7 k8 h8 _ ?side1 ?side2 ?side3 t8.out).mono ?_
        (case side1 => exact a5.out)
        (case side2 => exact pC ((Kd.V_reads' a6.out).2.2))
        (case side3 => exact (Kd.V_reads' a6.out).2.1)
        rintro e v5 ⟨u9, r9, rfl, m5, i9, hb⟩
        have g8 := (hb.cell (World.block_lt_of_cell? _ _ (a4.2.2.2.2.2.1))).trans (a4.2.2.2.2.2.1)
        have g9 := (hb.cell (World.block_lt_of_cell? _ _ (a4.2.2.2.2.2.2.1))).trans (a4.2.2.2.2.2.2.1)
        have h0 := (hb.cell (World.block_lt_of_cell? _ _ (a4.2.2.2.2.2.2.2.1))).trans (a4.2.2.2.2.2.2.2.1)
        have h2 := (hb.cell (World.block_lt_of_cell? _ _ (a4.2.2.2.2.2.2.2.2.1))).trans (a4.2.2.2.2.2.2.2.2.1)
        have h3 := (hb.cell (World.block_lt_of_cell? _ _ (a4.2.2.2.2.2.2.2.2.2.1))).trans (a4.2.2.2.2.2.2.2.2.2.1)
        have e3 := (hb.cell (World.block_lt_of_cell? _ _ (a4.2.2.2.2.2.2.2.2.2.2.1))).trans (a4.2.2.2.2.2.2.2.2.2.2.1)
        have e4 := (hb.cell (World.block_lt_of_cell? _ _ (a4.2.2.2.2.2.2.2.2.2.2.2.1))).trans (a4.2.2.2.2.2.2.2.2.2.2.2.1)
        have e5 := (hb.cell (World.block_lt_of_cell? _ _ (a4.2.2.2.2.2.2.2.2.2.2.2.2.1))).trans (a4.2.2.2.2.2.2.2.2.2.2.2.2.1)
        have e6 := (hb.cell (World.block_lt_of_cell? _ _ (a4.2.2.2.2.2.2.2.2.2.2.2.2.2))).trans (a4.2.2.2.2.2.2.2.2.2.2.2.2.2)
        refine ⟨_, rfl, ?_⟩
        replace a5 := am (Kd.V_elder' (pV a5.out) (Kd.R_base i9) hb)
        replace a6 := am (Kd.V_elder' (pV a6.out) (Kd.R_base i9) hb)
        replace b7 := am (Kd.V_elder' (pV b7.out) (Kd.R_base i9) hb)
        have e7 := vL (ok' := fun k_ => ((b8 k_ ∨ b9 k_) ∨ w.heap.size ≤ k_) ∧ some k_ ≠ (r9 : Value).ownBlock ∧ k_ ≠ b4 ∧ k_ ≠ d1) HB m5 (fun k_ g3 => ⟨Or.elim g3.1 (fun b6 => b6.1) (fun m4 => (.inr (Nat.le_trans (q0m (pB HB.out)) m4))), g3.2, Or.elim g3.1 (fun b6 => b6.2.1) (fB a3), Or.elim g3.1 (fun b6 => b6.2.2) (fB b1)⟩)
        have c8 := am (Kd.R_lower (Kd.R_newM (M := fun k_ => (w.heap.size ≤ k_)) (Kd.R_mono (ok' := fun k_ => True) i9 (fun _ g3 => trivial)) (q0m (pB HB.out)) (fun k_ h_ => h_)) (q0m (pB HB.out)))
        replace a3 := kB a3 hb
        replace b1 := kB b1 hb
        replace b3 := am (Kd.C_below (by repeat (first | (with_reducible exact b3.out) | (with_reducible refine Kd.C_alloc ?_ _) | (with_reducible refine Kd.C_drewN ?_ _) | (with_reducible refine Kd.C_drew ?_) | exact b3.out)) hb)
        replace HB := bS HB hb
        (try clear hb)
        (try clear hb2)
        (try clear hk)
        (try clear hi)
        (try clear m5)
        (try clear i9)
        obtain ⟨p4, q1, m0⟩ := Kd.V_slice e7.out
        (first | subst m0 | (injection m0 with f1_ f2_ f3_; have j2 := f1_.symm; have j3 := f3_.symm; clear f1_ f2_ f3_; subst j2; subst j3))
        obtain ⟨j0, j1, m1⟩ := Kd.R_slice c8.out
        (first | subst m1 | (injection m1 with f1_ f2_ f3_; have j2 := f1_.symm; have j3 := f3_.symm; clear f1_ f2_ f3_; subst j2; subst j3))
        refine hK.out _ _ ⟨bc a3.out, bc a3.out, bc a3.out, bc a3.out, bc a3.out, g8, g9, h0, h2, h3, e3, e4, e5, e6⟩ (fun a4 => ?_)
        clear hK K
        refine nh ?_
        refine one_ (i := 16) (N := some 32) (ba 18 131071) rfl rfl (q3i d4.out (by kernel_rfl)) (by decide) (fun K hK => ?_)
        refine q1v Try.func35 (by kernel_rfl) rfl #[.agg #[.string k5, .string k6, .slice p4 k7.length q1, .int .i64 k8, .slice j0 h8.length j1]] (by rfl) rfl rfl (by (try simp only [List.map_toArray, List.map_cons, List.map_nil]); first | done | rfl | (simp only [List.length_drop, List.length_take]; rfl)) ?_
        with_reducible refine (Fg.calls k1 k5 k6 (fun k_ => (((b8 k_ ∨ b9 k_) ∨ w.heap.size ≤ k_) ∧ (some k_ ≠ (.slice j0 h8.length j1 : Value).ownBlock ∧ (k_ ≠ b4 ∧ k_ ≠ d1)))) _ _ k7 k8 (fun k_ => some k_ = (.slice j0 h8.length j1 : Value).ownBlock) _ _ h8 m8 m9 k9 n0 l1 _ ?side1 ?side2 t9.out).mono ?_
        (case side1 => exact e7.out)
        (case side2 => exact Kd.R_V (Kd.R_tight rfl (Kd.R_types (Kd.R_types (c8.out) a3.out (by decide)) b1.out (by decide))))
        rintro e n1 ⟨v0, v1, rfl, m5, i9, hb⟩
        have g8 := (hb.cell (World.block_lt_of_cell? _ _ (a4.2.2.2.2.2.1))).trans (a4.2.2.2.2.2.1)
        have g9 := (hb.cell (World.block_lt_of_cell? _ _ (a4.2.2.2.2.2.2.1))).trans (a4.2.2.2.2.2.2.1)
        have h0 := (hb.cell (World.block_lt_of_cell? _ _ (a4.2.2.2.2.2.2.2.1))).trans (a4.2.2.2.2.2.2.2.1)
        have h2 := (hb.cell (World.block_lt_of_cell? _ _ (a4.2.2.2.2.2.2.2.2.1))).trans (a4.2.2.2.2.2.2.2.2.1)
        have h3 := (hb.cell (World.block_lt_of_cell? _ _ (a4.2.2.2.2.2.2.2.2.2.1))).trans (a4.2.2.2.2.2.2.2.2.2.1)
        have e3 := (hb.cell (World.block_lt_of_cell? _ _ (a4.2.2.2.2.2.2.2.2.2.2.1))).trans (a4.2.2.2.2.2.2.2.2.2.2.1)
        have e4 := (hb.cell (World.block_lt_of_cell? _ _ (a4.2.2.2.2.2.2.2.2.2.2.2.1))).trans (a4.2.2.2.2.2.2.2.2.2.2.2.1)
        have e5 := (hb.cell (World.block_lt_of_cell? _ _ (a4.2.2.2.2.2.2.2.2.2.2.2.2.1))).trans (a4.2.2.2.2.2.2.2.2.2.2.2.2.1)
        have e6 := (hb.cell (World.block_lt_of_cell? _ _ (a4.2.2.2.2.2.2.2.2.2.2.2.2.2))).trans (a4.2.2.2.2.2.2.2.2.2.2.2.2.2)
        refine ⟨_, rfl, ?_⟩
        replace a5 := vB a5 hb
        replace a6 := vB a6 hb
        replace b7 := vB b7 hb
        replace e7 := vB e7 hb
        have i7 := vL (ok' := fun k_ => ((b8 k_ ∨ b9 k_) ∨ w.heap.size ≤ k_) ∧ k_ ≠ b4 ∧ k_ ≠ d1) HB m5 (fun k_ g3 => ⟨Or.elim g3 (fun b6 => Or.elim b6 (fun b6 => b6.1) (fun b6 => (.inr (((Kd.R_types (Kd.R_types (c8.out) a3.out (by decide)) b1.out (by decide)).1 k_ b6.symm).1.1.1)))) (fun m4 => (.inr (Nat.le_trans (q0m (pB HB.out)) m4))), Or.elim g3 (fun b6 => Or.elim b6 (fun b6 => b6.2.2.1) (fun b6 => ((Kd.R_types (Kd.R_types (c8.out) a3.out (by decide)) b1.out (by decide)).1 k_ b6.symm).1.2)) (fB a3), Or.elim g3 (fun b6 => Or.elim b6 (fun b6 => b6.2.2.2) (fun b6 => ((Kd.R_types (Kd.R_types (c8.out) a3.out (by decide)) b1.out (by decide)).1 k_ b6.symm).2)) (fB b1)⟩)
        have i8 := vL (ok' := fun k_ => ((b8 k_ ∨ b9 k_) ∨ w.heap.size ≤ k_) ∧ k_ ≠ b4 ∧ k_ ≠ d1) HB i9 (fun k_ g3 => ⟨Or.elim g3 (fun b6 => Or.elim b6 (fun b6 => b6.1) (fun b6 => (.inr (((Kd.R_types (Kd.R_types (c8.out) a3.out (by decide)) b1.out (by decide)).1 k_ b6.symm).1.1.1)))) (fun m4 => (.inr (Nat.le_trans (q0m (pB HB.out)) m4))), Or.elim g3 (fun b6 => Or.elim b6 (fun b6 => b6.2.2.1) (fun b6 => ((Kd.R_types (Kd.R_types (c8.out) a3.out (by decide)) b1.out (by decide)).1 k_ b6.symm).1.2)) (fB a3), Or.elim g3 (fun b6 => Or.elim b6 (fun b6 => b6.2.2.2) (fun b6 => ((Kd.R_types (Kd.R_types (c8.out) a3.out (by decide)) b1.out (by decide)).1 k_ b6.symm).2)) (fB b1)⟩)
        replace c8 := am (Kd.R_below (pR c8.out) hb)
        replace a3 := kB a3 hb
        replace b1 := kB b1 hb
        replace b3 := am (Kd.C_below (by repeat (first | (with_reducible exact b3.out) | (with_reducible refine Kd.C_alloc ?_ _) | (with_reducible refine Kd.C_drewN ?_ _) | (with_reducible refine Kd.C_drew ?_) | exact b3.out)) hb)
        replace HB := bS HB hb
        (try clear hb)
        (try clear hb2)
        (try clear hk)
        (try clear hi)
        (try clear m5)
        (try clear i9)
        obtain ⟨p5, q2, m2⟩ := Kd.V_slice i7.out
        (first | subst m2 | (injection m2 with f1_ f2_ f3_; have j2 := f1_.symm; have j3 := f3_.symm; clear f1_ f2_ f3_; subst j2; subst j3))
        obtain ⟨p6, q3, m3⟩ := Kd.V_slice i8.out
        (first | subst m3 | (injection m3 with f1_ f2_ f3_; have j2 := f1_.symm; have j3 := f3_.symm; clear f1_ f2_ f3_; subst j2; subst j3))
        refine hK.out _ _ ⟨bc a3.out, bc a3.out, bc a3.out, bc a3.out, bc a3.out, g8, g9, h0, h2, h3, e3, e4, e5, e6⟩ (fun a4 => ?_)
        clear hK K
        refine nh ?_
        refine last_ (i := 17) (N := none) (ba 18 262143) rfl rfl (q3i d4.out (by kernel_rfl)) (by decide) (fun K hK => ?_)
        have u1 : n1.cell? ⟨b4, 0, none⟩ = some (.string a8) := bc a3.out
        have s7 := z1 a3.out
        have o5 := b5.out
        have o0 := b2.out
        have u2 : n1.cell? ⟨b4, 1, none⟩ = some (.string a9) := bc a3.out
        have s8 := q0k a3.out 1
        have o6 := b5.out
        have o1 := b2.out
        have u3 : n1.cell? ⟨b4, 2, none⟩ = some (.slice (some d0) a2.length i3) := bc a3.out
        have s9 := q0k a3.out 2
        have o7 := b5.out
        have o2 := b2.out
        have u4 : n1.cell? ⟨b4, 3, none⟩ = some (.int .i64 b0) := bc a3.out
        have t0 := q0k a3.out 3
        have o8 := b5.out
        have o3 := b2.out
        have u5 : n1.cell? ⟨b4, 4, none⟩ = some (.slice (some c6) a0.length i4) := bc a3.out
        have t1 := q0k a3.out 4
        have o9 := b5.out
        have o4 := b2.out
        refine skip_ (w1 := ?_) (by rfl) rfl ?_ ?_
        rotate_left
        ·
         go_simp
         rfl
        refine hK.out _ _ ?_
        clear hK K
        refine q2c (q3l d4.out (by kernel_rfl)) ?_
        try go_wp2
        go_roundg k1
        case measure => have := n2.out; omega
        case rel => exact ⟨(wrap64 (g4 + 1)), (m8), (m9), (k9), (n0), (l1), (.slice p5 k9.length q2), (.slice p6 l1.length q3), el, H', ⟨by have := n2.out; omega⟩, ⟨(pV i7.out)⟩, ⟨(pV i8.out)⟩, ⟨pP a3.out⟩, ⟨pk b1.out⟩, ⟨pB HB.out⟩⟩
       rw [if_neg n5] at H
       exact absurd H (by simp)
      rw [if_neg n4] at H
      exact absurd H (by simp)
     rw [if_neg n3] at H
     exact absurd H (by simp)
    rw [if_neg c9] at H
    have q0 := decide_eq_false c9
    clear c9
    have H' := am H
    clear H
    have t3 := nn b2
    have n7 := y5 a3
    obtain ⟨l5, l8, r0⟩ := Kd.V_slice a5.out
    subst r0
    obtain ⟨l6, l9, r6⟩ := Kd.V_slice a6.out
    subst r6
    go_wp2_with (first | ((with_reducible refine gC 47 ?_); refine gL 13 Try.func47 #[.agg #[.string a8, .string a9, .slice l5 a2.length l8, .int .i64 b0, .slice l6 a0.length l9], .int .i64 a1] ?_; (with_reducible refine (Fl.calls k1 a8 a9 _ _ a2 b0 _ _ a0 a1 a7 _ ?side1 ?side2 ?side3 ?side4 A8.out).mono ?_); (case side1 => exact pC ((Kd.V_reads' a5.out).2.2)); (case side2 => exact (Kd.V_reads' a5.out).2.1); (case side3 => exact pC ((Kd.V_reads' a6.out).2.2)); (case side4 => exact (Kd.V_reads' a6.out).2.1); rintro e v6 ⟨rfl, hb⟩; refine ⟨_, rfl, ?_⟩; replace a5 := vB a5 hb; replace a6 := vB a6 hb; replace a3 := kB a3 hb; replace b1 := kB b1 hb; replace HB := bS HB hb; (try clear hb)))
    go_roundg k1
    case measure => have := n2.out; omega
    case rel => exact ⟨(wrap64 (g4 + 1)), (a8), (a9), (a2), (b0), (a0), (.slice l5 a2.length l8), (.slice l6 a0.length l9), el, H', ⟨by have := n2.out; omega⟩, ⟨(pV a5.out)⟩, ⟨(pV a6.out)⟩, ⟨pk a3.out⟩, ⟨pk b1.out⟩, ⟨pB HB.out⟩⟩
   rw [if_neg c7] at H
   have p9 := decide_eq_false c7
   clear c7
   simp only [Option.some.injEq, Prod.mk.injEq] at H
   obtain ⟨rfl, rfl, rfl, rfl, rfl⟩ := H
   have t4 := nn b2
   have n8 := y5 a3
   have n9 := y5 b1
   obtain ⟨p7, q4, r7⟩ := Kd.V_slice a5.out
   subst r7
   obtain ⟨p8, q5, r8⟩ := Kd.V_slice a6.out
   subst r8
   go_wp2
   refine bodyPost_ret (results_cell_row rfl _ _ d1 27 #[.string a8, .string a9, .slice p7 a2.length q4, .int .i64 b0, .slice p8 a0.length q5] (0, 0) _ rfl (pP b1.out) Try.underlying27 rfl (by kernel_rfl)) rfl ?_
   exact ⟨_, _, by first | rfl | (simp [q1f, q1e] <;> rfl) | (simp [*, q1f, q1e] <;> rfl), by exact Kd.V_mono (pV a5.out) (fun _ hk => hk.1), by exact Kd.V_mono (pV a6.out) (fun _ hk => hk.1), pB HB.out⟩
def Fv.l0 : Nat → Int → List (S51) → Int → Int → Option (Int)
 | 0, _, _, _, _ => none
 | k + 1, x1, x8, x9, a0 => if a0 < x9 then (if 0 ≤ a0 then (if a0 < (x8.length : Int) then (if ((q0a x8 a0).f0) = 2 then (if ((q0a x8 a0).f3) = x1 then (some a0) else (Fv.l0 k x1 x8 x9 (wrap64 (a0 + 1)))) else (Fv.l0 k x1 x8 x9 (wrap64 (a0 + 1)))) else (none)) else (none)) else (some (-1))
def Fv.f (k : Nat) (a2 : ByteArray) (a3 : ByteArray) (a5 : List (S49)) (a4 : Int) (a0 : List (S51)) (a1 : Int) : Option (Int) := Fv.l0 k a1 a0 (a0.length : Int) 0
set_option maxHeartbeats 8000000 in
set_option maxRecDepth 100000 in
theorem Fv.calls (k : Nat) (b9 : ByteArray) (d0 : ByteArray) (b7 : Option Addr) (d2 : Nat) (b4 : List (S49)) (d1 : Int) (b8 : Option Addr) (d3 : Nat) (a9 : List (S51)) (a1 : Int) (r : Int) (w : World) (d9 : Kd.C k49 w b7 b4.length b4) (d7 : b4.length ≤ d2) (e0 : Kd.C k51 w b8 a9.length a9) (d8 : a9.length ≤ d3) (h : Fv.f k b9 d0 b4 d1 a9 a1 = some r) :
  Calls Try.prog 57 #[.agg #[.string b9, .string d0, .slice b7 b4.length d2, .int .i64 d1, .slice b8 a9.length d3], .int .i64 a1] w fun e w' => e = .returned (.int .i64 r) ∧ Below w.heap.size w w' := by
 have g3 := Try.underlying27
 have g4 := Try.underlying51
 have f7 := am d9
 have f5 := am d7
 clear d9 d7
 have b5 := am e0
 have f6 := am d8
 clear e0 d8
 have HB := am (Below.refl w.heap.size w)
 unfold Fv.f at h
 have H := h
 clear h
 have H' := am H
 clear H
 go_enter Try.func57, Try.ntmps57
 go_wp2_with (first | ((with_reducible refine gD 2 ?_); refine bz 2 #[.string b9, .string d0, .slice b7 b4.length d2, .int .i64 d1, .slice b8 a9.length d3] 27 HB ?_; clear HB; intro e2 hg w3 hb a2 f4 HB; clear hb hg; have e1 := y5 a2))
 go_loopg [10] k (fun kq g5 w' => ∃ (a0 : Int), g5 = .int .i64 a0 ∧ q0e (Fv.l0 kq a1 a9 (a9.length : Int) a0 = some r) ∧ q0e (kq ≤ k) ∧ q0e (w'.heap[e2]? = some (.cells #[.string b9, .string d0, (.slice b7 b4.length d2), .int .i64 d1, (.slice b8 a9.length d3)] 27 (0, 0))) ∧ q0e (Below w.heap.size w w'))
 case atStart => exact ⟨(0), el, H', ⟨Nat.le_refl _⟩, ⟨pk a2.out⟩, ⟨pB HB.out⟩⟩
 case round =>
  clear H'
  try clear e1
  try clear a2; try clear HB
  obtain ⟨a0, rfl, HA, e3, a2, HB⟩ := hrel
  cases gk with
  | zero => exact absurd HA.out (by simp [Fv.l0])
  | succ k1 =>
   have H := HA.out
   clear HA
   simp only [Fv.l0] at H
   by_cases c5 : a0 < (a9.length : Int)
   ·
    rw [if_pos c5] at H
    have e7 := decide_eq_true c5
    clear c5
    by_cases c6 : 0 ≤ a0
    ·
     rw [if_pos c6] at H
     have g1 := decide_eq_true c6
     clear c6
     by_cases c7 : a0 < (a9.length : Int)
     ·
      rw [if_pos c7] at H
      have g2 := decide_eq_true c7
      clear c7
      by_cases c8 : ((q0a a9 a0).f0) = 2
      ·
       rw [if_pos c8] at H
       obtain ⟨e8, e9⟩ := qt c8
       clear c8
       by_cases c9 : ((q0a a9 a0).f3) = a1
       ·
        rw [if_pos c9] at H
        obtain ⟨f1, f2⟩ := qt c9
        clear c9
        obtain rfl := Option.some.inj H
        have b0 : 0 ≤ (a0 : Int) := od
        have b1 : a0 < (a9.length : Int) := od
        obtain ⟨d5, b6, a3, a4, a5, a6, a7⟩ := q1i b5.out a0 b0 b1
        cases b6
        replace a3 := bX HB a3
        replace a4 := bX HB a4
        replace a5 := bX HB a5
        replace a6 := bX HB a6
        replace a7 := bX HB a7
        replace b0 := eq_true b0
        replace b1 := eq_true b1
        go_wp2_with (first | ((with_reducible refine gD 6 ?_); refine bz 6 #[.int .i64 0, .int .i64 0, .int .i64 0, .int .i64 0, .string (⟨#[]⟩ : ByteArray)] 51 HB ?_; clear HB; intro d6 hg g6 hb b3 d4 HB; have b2 := nL hg a2; have a8 := nG hg a2; replace a2 := kB a2 hb; clear hb hg; have f8 := nn a8; have e4 := y5 b3))
        go_ret
        exact ⟨er, pB HB.out⟩
       rw [if_neg c9] at H
       obtain ⟨f1, f2⟩ := qf c9
       have H' := am H
       clear H
       have b0 : 0 ≤ (a0 : Int) := od
       have b1 : a0 < (a9.length : Int) := od
       obtain ⟨d5, b6, a3, a4, a5, a6, a7⟩ := q1i b5.out a0 b0 b1
       cases b6
       replace a3 := bX HB a3
       replace a4 := bX HB a4
       replace a5 := bX HB a5
       replace a6 := bX HB a6
       replace a7 := bX HB a7
       replace b0 := eq_true b0
       replace b1 := eq_true b1
       go_wp2_with (first | ((with_reducible refine gD 6 ?_); refine bz 6 #[.int .i64 0, .int .i64 0, .int .i64 0, .int .i64 0, .string (⟨#[]⟩ : ByteArray)] 51 HB ?_; clear HB; intro d6 hg g7 hb b3 d4 HB; have b2 := nL hg a2; have a8 := nG hg a2; replace a2 := kB a2 hb; clear hb hg; have f9 := nn a8; have e5 := y5 b3))
       go_roundg k1
       case measure => have := e3.out; omega
       case rel => exact ⟨(wrap64 (a0 + 1)), el, H', ⟨by have := e3.out; omega⟩, ⟨pk a2.out⟩, ⟨pB HB.out⟩⟩
      rw [if_neg c8] at H
      obtain ⟨e8, e9⟩ := qf c8
      have H' := am H
      clear H
      have b0 : 0 ≤ (a0 : Int) := od
      have b1 : a0 < (a9.length : Int) := od
      obtain ⟨d5, b6, a3, a4, a5, a6, a7⟩ := q1i b5.out a0 b0 b1
      cases b6
      replace a3 := bX HB a3
      replace a4 := bX HB a4
      replace a5 := bX HB a5
      replace a6 := bX HB a6
      replace a7 := bX HB a7
      replace b0 := eq_true b0
      replace b1 := eq_true b1
      go_wp2_with (first | ((with_reducible refine gD 6 ?_); refine bz 6 #[.int .i64 0, .int .i64 0, .int .i64 0, .int .i64 0, .string (⟨#[]⟩ : ByteArray)] 51 HB ?_; clear HB; intro d6 hg g8 hb b3 d4 HB; have b2 := nL hg a2; have a8 := nG hg a2; replace a2 := kB a2 hb; clear hb hg; have g0 := nn a8; have e6 := y5 b3))
      go_roundg k1
      case measure => have := e3.out; omega
      case rel => exact ⟨(wrap64 (a0 + 1)), el, H', ⟨by have := e3.out; omega⟩, ⟨pk a2.out⟩, ⟨pB HB.out⟩⟩
     rw [if_neg c7] at H
     exact absurd H (by simp)
    rw [if_neg c6] at H
    exact absurd H (by simp)
   rw [if_neg c5] at H
   have e7 := decide_eq_false c5
   clear c5
   obtain rfl := Option.some.inj H
   go_wp2
   go_ret
   exact ⟨er, pB HB.out⟩
def Gb.f (k : Nat) (b0 : List Int) (a7 : Int) (a8 : Int) (a1 : Int) (a0 : Int) (a3 : Int) (a9 : Int) (a4 : Int) (a5 : ByteArray) (a2 : Int) : Option (Int × Int × Int × Int × ByteArray × Int) := if a0 = 2 then ((Ff.f k a2 (([a1] : List Int))).bind fun a6 => (some (a0, a3, a6, a4, a5, 0))) else (some (0, 0, 0, 0, (⟨#[]⟩ : ByteArray), 191))
set_option maxHeartbeats 8000000 in
set_option maxRecDepth 100000 in
theorem Gb.calls (k : Nat) (b7 : Option Addr) (c7 : Nat) (b1 : List Int) (b8 : Int) (b9 : Int) (a6 : Int) (b0 : Int) (b2 : Int) (c6 : Int) (b3 : Int) (b4 : ByteArray) (a2 : Int) (r1 : Int) (r2 : Int) (r3 : Int) (r4 : Int) (r5 : ByteArray) (r6 : Int) (w : World) (d4 : Kd.C (Kd.int .i64) w b7 b1.length b1) (d3 : b1.length ≤ c7) (h : Gb.f k b1 b8 b9 a6 b0 b2 c6 b3 b4 a2 = some (r1, r2, r3, r4, r5, r6)) :
  Calls Try.prog 58 #[.agg #[.slice b7 b1.length c7, .int .i64 b8, .int .i64 b9, .int .i64 a6], .agg #[.int .i64 b0, .int .i64 b2, .int .i64 c6, .int .i64 b3, .string b4], .int .i64 a2] w fun e w' => e = .returned (.tuple #[.agg #[.int .i64 r1, .int .i64 r2, .int .i64 r3, .int .i64 r4, .string r5], .int .i64 r6]) ∧ Below w.heap.size w w' := by
 have g8 := Try.underlying49
 have g9 := Try.underlying51
 have f5 := am d4
 have f4 := am d3
 clear d4 d3
 have HB := am (Below.refl w.heap.size w)
 unfold Gb.f at h
 have H := h
 clear h
 by_cases c4 : b0 = 2
 ·
  rw [if_pos c4] at H
  obtain ⟨f0, f1⟩ := qt c4
  clear c4
  obtain ⟨y377, hy377⟩ : ∃ y_ : List Int, y_ = (([a6] : List Int)) := ⟨_, rfl⟩
  replace H : ((Ff.f k a2 y377).bind fun c9 => (some (b0, b2, c9, b3, b4, 0))) = some (r1, r2, r3, r4, r5, r6) := by first | (rw [hy377]; with_reducible exact H) | (have e9 := (Option.bind_some _ _).symm.trans H; rw [hy377]; with_reducible exact e9) | (have e9 := (Option.bind_some _ _).symm.trans H; with_reducible exact e9) | with_reducible exact H | (rw [hy377]; exact H) | exact H
  have d0 := am hy377
  clear hy377
  replace H := Option.bind_eq_some_iff.mp H
  obtain ⟨c9, f3, H⟩ := H
  try dsimp only at H
  have A5 := am f3
  clear f3
  simp only [Option.some.injEq, Prod.mk.injEq] at H
  obtain ⟨rfl, rfl, rfl, rfl, rfl, rfl⟩ := H
  go_enter Try.func58, Try.ntmps58
  go_wp2_with (first | ((with_reducible refine gD 3 ?_); refine bz 3 #[.slice b7 b1.length c7, .int .i64 b8, .int .i64 b9, .int .i64 a6] 49 HB ?_; clear HB; intro d1 hg w6 hb a0 d8 HB; clear hb hg) | ((with_reducible refine gD 4 ?_); refine bz 4 #[.int .i64 b0, .int .i64 b2, .int .i64 c6, .int .i64 b3, .string b4] 51 HB ?_; clear HB; intro d2 hg w7 hb a1 d9 HB; have b6 := nL hg a0; have a4 := nG hg a0; replace a0 := kB a0 hb; clear hb hg) | ((with_reducible refine gD 6 ?_); refine bz 6 #[.int .i64 0, .int .i64 0, .int .i64 0, .int .i64 0, .string (⟨#[]⟩ : ByteArray)] 51 HB ?_; clear HB; intro b5 hg w8 hb a3 e0 HB; have a8 := nL hg a0; have a9 := nG hg a0; replace a0 := kB a0 hb; have a5 := nL hg a1; replace a1 := kB a1 hb; clear hb hg; have g7 := nn a4; have f6 := nn a5; have e3 := y5 a1; have f7 := nn a8; have e4 := y4 a0) | ((with_reducible refine gD 15 ?_); refine Kd.R_lit (Kd.int .i64) _ 3 ?hg (N := 15) ?hd (xs := ([a6] : List Int)) (inner := [.int .i64 a6]) (ok := fun _ => True) (okp := fun _ => True) ?hr ?hp (fun _ hk => hk) trivial (Below.refl _ _) (Nat.le_refl _) (by simp) ?_; (case hd => rfl); (case hg => rfl); (case hr => first | (go_simp; done) | (go_simp; rfl)); (case hp => exact (Reps.one (show Kd.M (Kd.int .i64) _ _ _ a6 [.int .i64 a6] from rfl) (Reps.none _ _))); intro h0 d5 c8 hb g6 e2; clear g6 e2; (first | rw [← d0.out] at c8 | (simp only [Int.reduceToNat] at c8; rw [← d0.out] at c8)); have a7 := am (Kd.R_lower c8 (q0m (pB HB.out))); replace a0 := kB a0 hb; replace a1 := kB a1 hb; replace a3 := kB a3 hb; replace HB := bS HB hb; clear hb c8; obtain ⟨d7, e1, f2⟩ := Kd.R_slice a7.out; subst f2) | ((with_reducible refine gC 84 ?_); refine gL 16 Try.func84 #[.int .i64 a2, .slice d7 y377.length e1] ?_; (with_reducible refine (Ff.calls k a2 _ _ y377 c9 _ ?side1 ?side2 A5.out).mono ?_); (case side1 => exact pC ((Kd.R_reads' a7.out).2.2)); (case side2 => exact (Kd.R_reads' a7.out).2.1); rintro e w' ⟨rfl, ⟨nd, rfl⟩⟩; refine ⟨_, rfl, ?_⟩; (try (rw [drewN_self d5]; generalize d6 : World.drewN d5 _ = d5; have g1 : q0e (Kd.R (Kd.int .i64) 3 d5 w.heap.size (fun _ => True) (.slice d7 y377.length e1) y377) := ⟨by rw [← d6]; exact (pR a7.out)⟩; have g2 : q0e (d5.heap[d1]? = some (.cells #[.slice b7 b1.length c7, .int .i64 b8, .int .i64 b9, .int .i64 a6] 49 (0, 0))) := ⟨by rw [← d6]; exact (pk a0.out)⟩; have g3 : q0e (d5.heap[d2]? = some (.cells #[.int .i64 b0, .int .i64 b2, .int .i64 c6, .int .i64 b3, .string b4] 51 (0, 0))) := ⟨by rw [← d6]; exact (pk a1.out)⟩; have g4 : q0e (d5.heap[b5]? = some (.cells #[.int .i64 0, .int .i64 0, .int .i64 0, .int .i64 0, .string (⟨#[]⟩ : ByteArray)] 51 (0, 0))) := ⟨by rw [← d6]; exact (pk a3.out)⟩; have g5 : q0e (Below w.heap.size w d5) := ⟨by rw [← d6]; exact (pB HB.out)⟩; clear a7 a0 a1 a3 HB d6; have a7 := g1; have a0 := g2; have a1 := g3; have a3 := g4; have HB := g5; clear g1 g2 g3 g4 g5)); have e5 := y5 a1; have e6 := y5 a3))
  refine bodyPost_ret (q0v rfl _ _ b5 51 #[.int .i64 b0, .int .i64 b2, .int .i64 c9, .int .i64 b3, .string b4] (0, 0) _ rfl (pP a3.out) Try.underlying51 rfl (by kernel_rfl)) rfl ?_
  exact ⟨er, pB HB.out⟩
 rw [if_neg c4] at H
 obtain ⟨f0, f1⟩ := qf c4
 simp only [Option.some.injEq, Prod.mk.injEq] at H
 obtain ⟨rfl, rfl, rfl, rfl, rfl, rfl⟩ := H
 go_enter Try.func58, Try.ntmps58
 go_wp2_with (first | ((with_reducible refine gD 3 ?_); refine bz 3 #[.slice b7 b1.length c7, .int .i64 b8, .int .i64 b9, .int .i64 a6] 49 HB ?_; clear HB; intro d1 hg h2 hb a0 d8 HB; clear hb hg) | ((with_reducible refine gD 4 ?_); refine bz 4 #[.int .i64 b0, .int .i64 b2, .int .i64 c6, .int .i64 b3, .string b4] 51 HB ?_; clear HB; intro d2 hg h3 hb a1 d9 HB; have b6 := nL hg a0; have a4 := nG hg a0; replace a0 := kB a0 hb; clear hb hg) | ((with_reducible refine gD 6 ?_); refine bz 6 #[.int .i64 0, .int .i64 0, .int .i64 0, .int .i64 0, .string (⟨#[]⟩ : ByteArray)] 51 HB ?_; clear HB; intro b5 hg h4 hb a3 e0 HB; have a8 := nL hg a0; have a9 := nG hg a0; replace a0 := kB a0 hb; have a5 := nL hg a1; replace a1 := kB a1 hb; clear hb hg; have f8 := nn a4; have f9 := nn a5; have e7 := y5 a1; have g0 := nn a9; have e8 := y5 a3))
 refine bodyPost_ret (q0v rfl _ _ b5 51 #[.int .i64 0, .int .i64 0, .int .i64 0, .int .i64 0, .string (⟨#[]⟩ : ByteArray)] (0, 0) _ rfl (pP a3.out) Try.underlying51 rfl (by kernel_rfl)) rfl ?_
 exact ⟨er, pB HB.out⟩
def Gh.f (a0 : Int) (a2 : Int) (a3 : Int) (a4 : Int) (a5 : ByteArray) (a1 : ByteArray) : Option (Int × Int × Int × Int × ByteArray × Int) := if a0 = 2 then (if (a1.size : Int) > 16 then (some (0, 0, 0, 0, (⟨#[]⟩ : ByteArray), 1)) else (some (3, a2, 0, 0, a1, 0))) else (some (0, 0, 0, 0, (⟨#[]⟩ : ByteArray), 191))
set_option maxHeartbeats 8000000 in
set_option maxRecDepth 100000 in
theorem Gh.calls (a5 : Int) (a6 : Int) (a7 : Int) (a8 : Int) (a9 : ByteArray) (a1 : ByteArray) (r1 : Int) (r2 : Int) (r3 : Int) (r4 : Int) (r5 : ByteArray) (r6 : Int) (w : World) (h : Gh.f a5 a6 a7 a8 a9 a1 = some (r1, r2, r3, r4, r5, r6)) :
  Calls Try.prog 59 #[.agg #[.int .i64 a5, .int .i64 a6, .int .i64 a7, .int .i64 a8, .string a9], .string a1] w fun e w' => e = .returned (.tuple #[.agg #[.int .i64 r1, .int .i64 r2, .int .i64 r3, .int .i64 r4, .string r5], .int .i64 r6]) ∧ Below w.heap.size w w' := by
 have d2 := Try.underlying51
 have HB := am (Below.refl w.heap.size w)
 unfold Gh.f at h
 have H := h
 clear h
 by_cases c3 : a5 = 2
 ·
  rw [if_pos c3] at H
  obtain ⟨b7, b8⟩ := qt c3
  clear c3
  by_cases c4 : (a1.size : Int) > 16
  ·
   rw [if_pos c4] at H
   have b9 := decide_eq_true c4
   have c6 : decide (16 < a1.size) = true := decide_eq_true (by omega)
   clear c4
   simp only [Option.some.injEq, Prod.mk.injEq] at H
   obtain ⟨rfl, rfl, rfl, rfl, rfl, rfl⟩ := H
   go_enter Try.func59, Try.ntmps59
   go_wp2_with (first | ((with_reducible refine gD 2 ?_); refine bz 2 #[.int .i64 a5, .int .i64 a6, .int .i64 a7, .int .i64 a8, .string a9] 51 HB ?_; clear HB; intro b2 hg w5 hb a0 b0 HB; clear hb hg) | ((with_reducible refine gD 4 ?_); refine bz 4 #[.int .i64 0, .int .i64 0, .int .i64 0, .int .i64 0, .string (⟨#[]⟩ : ByteArray)] 51 HB ?_; clear HB; intro a4 hg w6 hb a3 b1 HB; have a2 := nL hg a0; replace a0 := kB a0 hb; clear hb hg; have d1 := nn a2; have c7 := y5 a0; have c8 := y5 a3))
   refine bodyPost_ret (q0v rfl _ _ a4 51 #[.int .i64 0, .int .i64 0, .int .i64 0, .int .i64 0, .string (⟨#[]⟩ : ByteArray)] (0, 0) _ rfl (pP a3.out) Try.underlying51 rfl (by kernel_rfl)) rfl ?_
   exact ⟨er, pB HB.out⟩
  rw [if_neg c4] at H
  have b9 := decide_eq_false c4
  have c6 : decide (16 < a1.size) = false := decide_eq_false (by omega)
  clear c4
  simp only [Option.some.injEq, Prod.mk.injEq] at H
  obtain ⟨rfl, rfl, rfl, rfl, rfl, rfl⟩ := H
  go_enter Try.func59, Try.ntmps59
  go_wp2_with (first | ((with_reducible refine gD 2 ?_); refine bz 2 #[.int .i64 a5, .int .i64 a6, .int .i64 a7, .int .i64 a8, .string a9] 51 HB ?_; clear HB; intro b2 hg d3 hb a0 b0 HB; clear hb hg) | ((with_reducible refine gD 4 ?_); refine bz 4 #[.int .i64 0, .int .i64 0, .int .i64 0, .int .i64 0, .string (⟨#[]⟩ : ByteArray)] 51 HB ?_; clear HB; intro a4 hg d4 hb a3 b1 HB; have a2 := nL hg a0; replace a0 := kB a0 hb; clear hb hg; have c9 := nn a2; have b3 := y5 a0; have b4 := y5 a3))
  refine bodyPost_ret (q0v rfl _ _ a4 51 #[.int .i64 3, .int .i64 a6, .int .i64 0, .int .i64 0, .string a1] (0, 0) _ rfl (pP a3.out) Try.underlying51 rfl (by kernel_rfl)) rfl ?_
  exact ⟨er, pB HB.out⟩
 rw [if_neg c3] at H
 obtain ⟨b7, b8⟩ := qf c3
 simp only [Option.some.injEq, Prod.mk.injEq] at H
 obtain ⟨rfl, rfl, rfl, rfl, rfl, rfl⟩ := H
 go_enter Try.func59, Try.ntmps59
 go_wp2_with (first | ((with_reducible refine gD 2 ?_); refine bz 2 #[.int .i64 a5, .int .i64 a6, .int .i64 a7, .int .i64 a8, .string a9] 51 HB ?_; clear HB; intro b2 hg d5 hb a0 b0 HB; clear hb hg) | ((with_reducible refine gD 4 ?_); refine bz 4 #[.int .i64 0, .int .i64 0, .int .i64 0, .int .i64 0, .string (⟨#[]⟩ : ByteArray)] 51 HB ?_; clear HB; intro a4 hg d6 hb a3 b1 HB; have a2 := nL hg a0; replace a0 := kB a0 hb; clear hb hg; have d0 := nn a2; have b5 := y5 a0; have b6 := y5 a3))
 refine bodyPost_ret (q0v rfl _ _ a4 51 #[.int .i64 0, .int .i64 0, .int .i64 0, .int .i64 0, .string (⟨#[]⟩ : ByteArray)] (0, 0) _ rfl (pP a3.out) Try.underlying51 rfl (by kernel_rfl)) rfl ?_
 exact ⟨er, pB HB.out⟩
end Go.Proofs.Ytabmkighhmchmaa.X
