/- Words and walks for the law RunSettles, joined and made small by a program of mine. -/
import Derived.Test.YtabmkighhmchmaaG2
import Derived.Test.YtabmkighhmchmaaG5
import Derived.Test.YtabmkighhmchmaaG6
import Derived.Test.YtabmkighhmchmaaG7
import Derived.Test.YtabmkighhmchmaaG8
import Derived.Test.YtabmkighhmchmaaG9
import Derived.Test.YtabmkighhmchmaaG3
namespace Go.Proofs.Ytabmkighhmchmaa.X
open Go.RowKit Go.YW.PrintWords Go.YW.PrintLast Go.YW.PrintMore Go.YW.Sq
attribute [local go_sem] q0y q0w q1g q1f q0t q0s q0x q0v
set_option linter.unusedVariables false
set_option linter.unusedSimpArgs false
mutual
def Fb.j0 : Nat → Int → Int → Bool → ByteArray → ByteArray → List (S49) → Int → List (S51) → Option (Bool)
 | 0, _, _, _, _, _, _, _, _ => none
 | k + 1, x1, x3, a7, a1, a2, a3, a0, a4 => if a7 = true then (none) else ((Gk.f k a1 a2 a3 a0 a4 x1 x3).bind fun a5 => (if a5.2.2.2.2.2.2 = 0 then ((Fa.f k a5.1 a5.2.1 a5.2.2.1 a5.2.2.2.1 a5.2.2.2.2.1).bind fun a6 => (if a6 = true then (Fb.j1 k x1 x3 (a0 != 0) a1 a2 a3 a0 a4) else (Fb.j1 k x1 x3 true a1 a2 a3 a0 a4))) else (Fb.j1 k x1 x3 false a1 a2 a3 a0 a4)))
def Fb.j1 : Nat → Int → Int → Bool → ByteArray → ByteArray → List (S49) → Int → List (S51) → Option (Bool)
 | 0, _, _, _, _, _, _, _, _ => none
 | k + 1, x1, x3, a5, a0, a1, a2, a3, a4 => if a5 = true then (none) else (Fb.l0 k x1 x3 0 a0 a1 a2 a3 a4)
def Fb.l0 : Nat → Int → Int → Int → ByteArray → ByteArray → List (S49) → Int → List (S51) → Option (Bool)
 | 0, _, _, _, _, _, _, _, _ => none
 | k + 1, x1, x3, a5, a1, a2, a3, a0, a4 => if a5 < 4 then ((F9.f k a1 a2 a3 a0 a4 x1 x3).bind fun a6 => (if a5 = 1 then ((Gh.f k a1 a2 a3 a0 a4 x1 x3 (⟨#[114]⟩ : ByteArray)).bind fun a7 => (if a7.2.2.2.2.2 = 0 then ((Fa.f k a7.1 a7.2.1 a7.2.2.1 a7.2.2.2.1 a7.2.2.2.2.1).bind fun b1 => (if b1 = true then (if a0 = 0 then (Fb.l0 k x1 x3 (wrap64 (a5 + 1)) a1 a2 a3 a0 a4) else (none)) else (none))) else (Fb.l0 k x1 x3 (wrap64 (a5 + 1)) a1 a2 a3 a0 a4))) else (if a5 = 2 then ((Gi.f k a1 a2 a3 a0 a4 x1 x3).bind fun a8 => (if a8.2.2.2.2.2 = 0 then ((Fa.f k a8.1 a8.2.1 a8.2.2.1 a8.2.2.2.1 a8.2.2.2.2.1).bind fun b2 => (if b2 = true then (if a0 = 0 then (Fb.l0 k x1 x3 (wrap64 (a5 + 1)) a1 a2 a3 a0 a4) else (none)) else (none))) else (Fb.l0 k x1 x3 (wrap64 (a5 + 1)) a1 a2 a3 a0 a4))) else (if a5 = 3 then ((Gd.f k a1 a2 a3 a0 a4 x1).bind fun a9 => (if a9.2.2.2.2.2 = 0 then ((Fa.f k a9.1 a9.2.1 a9.2.2.1 a9.2.2.2.1 a9.2.2.2.2.1).bind fun b3 => (if b3 = true then (if a0 = 0 then (Fb.l0 k x1 x3 (wrap64 (a5 + 1)) a1 a2 a3 a0 a4) else (none)) else (none))) else (Fb.l0 k x1 x3 (wrap64 (a5 + 1)) a1 a2 a3 a0 a4))) else (if a6.2.2.2.2.2 = 0 then ((Fa.f k a6.1 a6.2.1 a6.2.2.1 a6.2.2.2.1 a6.2.2.2.2.1).bind fun b4 => (if b4 = true then (if a0 = 0 then (Fb.l0 k x1 x3 (wrap64 (a5 + 1)) a1 a2 a3 a0 a4) else (none)) else (none))) else (Fb.l0 k x1 x3 (wrap64 (a5 + 1)) a1 a2 a3 a0 a4)))))) else ((F0.f k).bind fun b0 => (some b0))
end
def Fb.f (k : Nat) (a7 : ByteArray) (a8 : ByteArray) (b0 : List (S49)) (a9 : Int) (b1 : List (S51)) (a1 : Int) (a2 : Int) (a3 : Int) : Option (Bool) := (F5.f k a7 a8 b0 a9 b1).bind fun a0 => ((Fa.f k a0.1 a0.2.1 a0.2.2.1 a0.2.2.2.1 a0.2.2.2.2).bind fun b2 => (if b2 = true then ((Fw.f k a0.1 a0.2.1 a0.2.2.1 a0.2.2.2.1 a0.2.2.2.2 (mn (mx a1 0) 1099511627776)).bind fun a4 => ((Fw.f k a4.1 a4.2.1 a4.2.2.1 a4.2.2.2.1 a4.2.2.2.2.1 (mn (mx a2 (mn (mx a1 0) 1099511627776)) 1099511627776)).bind fun a5 => ((Fw.f k a0.1 a0.2.1 a0.2.2.1 a0.2.2.2.1 a0.2.2.2.2 (mn (mx a2 (mn (mx a1 0) 1099511627776)) 1099511627776)).bind fun a6 => (if a4.2.2.2.2.2 = 0 then (if a5.2.2.2.2.2 = 0 then (if a6.2.2.2.2.2 = 0 then ((Fl.f k a5.1 a5.2.1 a5.2.2.1 a5.2.2.2.1 a5.2.2.2.2.1 a6.1 a6.2.1 a6.2.2.1 a6.2.2.2.1 a6.2.2.2.2.1).bind fun b4 => (if b4 = true then ((Fa.f k a4.1 a4.2.1 a4.2.2.1 a4.2.2.2.1 a4.2.2.2.2.1).bind fun b5 => (if b5 = true then ((Fa.f k a5.1 a5.2.1 a5.2.2.1 a5.2.2.2.1 a5.2.2.2.2.1).bind fun b6 => (if b6 = true then (if a0.2.2.2.1 = 0 then (Fb.j0 k (mn (mx a1 0) 1099511627776) a3 false a0.1 a0.2.1 a0.2.2.1 a0.2.2.2.1 a0.2.2.2.2) else ((Fl.f k a4.1 a4.2.1 a4.2.2.1 a4.2.2.2.1 a4.2.2.2.2.1 a0.1 a0.2.1 a0.2.2.1 a0.2.2.2.1 a0.2.2.2.2).bind fun b7 => (Fb.j0 k (mn (mx a1 0) 1099511627776) a3 (!b7) a0.1 a0.2.1 a0.2.2.1 a0.2.2.2.1 a0.2.2.2.2))) else (Fb.j0 k (mn (mx a1 0) 1099511627776) a3 true a0.1 a0.2.1 a0.2.2.1 a0.2.2.2.1 a0.2.2.2.2))) else (Fb.j0 k (mn (mx a1 0) 1099511627776) a3 true a0.1 a0.2.1 a0.2.2.1 a0.2.2.2.1 a0.2.2.2.2))) else (Fb.j0 k (mn (mx a1 0) 1099511627776) a3 true a0.1 a0.2.1 a0.2.2.1 a0.2.2.2.1 a0.2.2.2.2))) else (Fb.j0 k (mn (mx a1 0) 1099511627776) a3 true a0.1 a0.2.1 a0.2.2.1 a0.2.2.2.1 a0.2.2.2.2)) else (Fb.j0 k (mn (mx a1 0) 1099511627776) a3 true a0.1 a0.2.1 a0.2.2.1 a0.2.2.2.1 a0.2.2.2.2)) else (Fb.j0 k (mn (mx a1 0) 1099511627776) a3 true a0.1 a0.2.1 a0.2.2.1 a0.2.2.2.1 a0.2.2.2.2))))) else ((F0.f k).bind fun b3 => (some b3))))
set_option maxHeartbeats 40000000 in
set_option maxRecDepth 100000 in
theorem Fb.calls (k : Nat) (r9 : ByteArray) (s0 : ByteArray) (t4 : Option Addr) (t7 : Nat) (p2 : List (S49)) (s1 : Int) (t5 : Option Addr) (t8 : Nat) (p3 : List (S51)) (a1 : Int) (a2 : Int) (a3 : Int) (r : Bool) (w : World) (D8 : Kd.C k49 w t4 p2.length p2) (D6 : p2.length ≤ t7) (D9 : Kd.C k51 w t5 p3.length p3) (D7 : p3.length ≤ t8) (h : Fb.f k r9 s0 p2 s1 p3 a1 a2 a3 = some r) :
  Calls Try.prog 8 #[.agg #[.string r9, .string s0, .slice t4 p2.length t7, .int .i64 s1, .slice t5 p3.length t8], .int .i64 a1, .int .i64 a2, .int .i64 a3] w fun e w' => e = .returned (.bool r) ∧ Below w.heap.size w w' := by
 have Ed := Try.underlying27
 have C0 := am D8
 have B8 := am D6
 clear D8 D6
 have C1 := am D9
 have B9 := am D7
 clear D9 D7
 have HB := am (Below.refl w.heap.size w)
 unfold Fb.f at h
 have H := h
 clear h
 replace H := Option.bind_eq_some_iff.mp H
 obtain ⟨⟨e2, e3, d3, d2, d4⟩, Db, H⟩ := H
 try dsimp only at H
 have A5 := am Db
 clear Db
 replace H := Option.bind_eq_some_iff.mp H
 obtain ⟨CC, Dc, H⟩ := H
 try dsimp only at H
 have A6 := am Dc
 clear Dc
 by_cases c7 : CC = true
 ·
  subst c7
  rw [if_pos rfl] at H
  try dsimp only at H
  obtain ⟨ji8, hji8⟩ : ∃ j_ : Int, (mx a1 0) = j_ := ⟨_, rfl⟩
  replace H : ((Fw.f k e2 e3 d3 d2 d4 (mn (ji8) 1099511627776)).bind fun e1 => ((Fw.f k e1.1 e1.2.1 e1.2.2.1 e1.2.2.2.1 e1.2.2.2.2.1 (mn (mx a2 (mn (ji8) 1099511627776)) 1099511627776)).bind fun f0 => ((Fw.f k e2 e3 d3 d2 d4 (mn (mx a2 (mn (ji8) 1099511627776)) 1099511627776)).bind fun f6 => (if e1.2.2.2.2.2 = 0 then (if f0.2.2.2.2.2 = 0 then (if f6.2.2.2.2.2 = 0 then ((Fl.f k f0.1 f0.2.1 f0.2.2.1 f0.2.2.2.1 f0.2.2.2.2.1 f6.1 f6.2.1 f6.2.2.1 f6.2.2.2.1 f6.2.2.2.2.1).bind fun r3 => (if r3 = true then ((Fa.f k e1.1 e1.2.1 e1.2.2.1 e1.2.2.2.1 e1.2.2.2.2.1).bind fun r4 => (if r4 = true then ((Fa.f k f0.1 f0.2.1 f0.2.2.1 f0.2.2.2.1 f0.2.2.2.2.1).bind fun r5 => (if r5 = true then (if d2 = 0 then (Fb.j0 k (mn (ji8) 1099511627776) a3 false e2 e3 d3 d2 d4) else ((Fl.f k e1.1 e1.2.1 e1.2.2.1 e1.2.2.2.1 e1.2.2.2.2.1 e2 e3 d3 d2 d4).bind fun q1 => (Fb.j0 k (mn (ji8) 1099511627776) a3 (!q1) e2 e3 d3 d2 d4))) else (Fb.j0 k (mn (ji8) 1099511627776) a3 true e2 e3 d3 d2 d4))) else (Fb.j0 k (mn (ji8) 1099511627776) a3 true e2 e3 d3 d2 d4))) else (Fb.j0 k (mn (ji8) 1099511627776) a3 true e2 e3 d3 d2 d4))) else (Fb.j0 k (mn (ji8) 1099511627776) a3 true e2 e3 d3 d2 d4)) else (Fb.j0 k (mn (ji8) 1099511627776) a3 true e2 e3 d3 d2 d4)) else (Fb.j0 k (mn (ji8) 1099511627776) a3 true e2 e3 d3 d2 d4))))) = some r := by first | (rw [hji8] at H; exact H) | (simp only [hji8] at H ⊢; exact H)
  (try rw [hji8] at A5)
  (try rw [hji8] at A6)
  (try (have Dy : 0 ≤ ji8 := by (rw [← hji8]; unfold mx; (repeat' split) <;> omega)))
  (try (have Dz : 0 ≤ ji8 := by omega))
  have Dx : (if a1 < 0 then 0 else a1) = ji8 := hji8
  obtain ⟨ji9, hji9⟩ : ∃ j_ : Int, (mn (ji8) 1099511627776) = j_ := ⟨_, rfl⟩
  replace H : ((Fw.f k e2 e3 d3 d2 d4 (ji9)).bind fun e1 => ((Fw.f k e1.1 e1.2.1 e1.2.2.1 e1.2.2.2.1 e1.2.2.2.2.1 (mn (mx a2 (ji9)) 1099511627776)).bind fun f0 => ((Fw.f k e2 e3 d3 d2 d4 (mn (mx a2 (ji9)) 1099511627776)).bind fun f6 => (if e1.2.2.2.2.2 = 0 then (if f0.2.2.2.2.2 = 0 then (if f6.2.2.2.2.2 = 0 then ((Fl.f k f0.1 f0.2.1 f0.2.2.1 f0.2.2.2.1 f0.2.2.2.2.1 f6.1 f6.2.1 f6.2.2.1 f6.2.2.2.1 f6.2.2.2.2.1).bind fun r3 => (if r3 = true then ((Fa.f k e1.1 e1.2.1 e1.2.2.1 e1.2.2.2.1 e1.2.2.2.2.1).bind fun r4 => (if r4 = true then ((Fa.f k f0.1 f0.2.1 f0.2.2.1 f0.2.2.2.1 f0.2.2.2.2.1).bind fun r5 => (if r5 = true then (if d2 = 0 then (Fb.j0 k ji9 a3 false e2 e3 d3 d2 d4) else ((Fl.f k e1.1 e1.2.1 e1.2.2.1 e1.2.2.2.1 e1.2.2.2.2.1 e2 e3 d3 d2 d4).bind fun q1 => (Fb.j0 k ji9 a3 (!q1) e2 e3 d3 d2 d4))) else (Fb.j0 k ji9 a3 true e2 e3 d3 d2 d4))) else (Fb.j0 k ji9 a3 true e2 e3 d3 d2 d4))) else (Fb.j0 k ji9 a3 true e2 e3 d3 d2 d4))) else (Fb.j0 k ji9 a3 true e2 e3 d3 d2 d4)) else (Fb.j0 k ji9 a3 true e2 e3 d3 d2 d4)) else (Fb.j0 k ji9 a3 true e2 e3 d3 d2 d4))))) = some r := by first | (rw [hji9] at H; exact H) | (simp only [hji9] at H ⊢; exact H)
  (try rw [hji9] at A5)
  (try rw [hji9] at A6)
  have DA : (if 1099511627776 < (ji8) then 1099511627776 else (ji8)) = ji9 := hji9
  obtain ⟨ji10, hji10⟩ : ∃ j_ : Int, (mx a2 (ji9)) = j_ := ⟨_, rfl⟩
  replace H : ((Fw.f k e2 e3 d3 d2 d4 (ji9)).bind fun e1 => ((Fw.f k e1.1 e1.2.1 e1.2.2.1 e1.2.2.2.1 e1.2.2.2.2.1 (mn (ji10) 1099511627776)).bind fun f0 => ((Fw.f k e2 e3 d3 d2 d4 (mn (ji10) 1099511627776)).bind fun f6 => (if e1.2.2.2.2.2 = 0 then (if f0.2.2.2.2.2 = 0 then (if f6.2.2.2.2.2 = 0 then ((Fl.f k f0.1 f0.2.1 f0.2.2.1 f0.2.2.2.1 f0.2.2.2.2.1 f6.1 f6.2.1 f6.2.2.1 f6.2.2.2.1 f6.2.2.2.2.1).bind fun r3 => (if r3 = true then ((Fa.f k e1.1 e1.2.1 e1.2.2.1 e1.2.2.2.1 e1.2.2.2.2.1).bind fun r4 => (if r4 = true then ((Fa.f k f0.1 f0.2.1 f0.2.2.1 f0.2.2.2.1 f0.2.2.2.2.1).bind fun r5 => (if r5 = true then (if d2 = 0 then (Fb.j0 k ji9 a3 false e2 e3 d3 d2 d4) else ((Fl.f k e1.1 e1.2.1 e1.2.2.1 e1.2.2.2.1 e1.2.2.2.2.1 e2 e3 d3 d2 d4).bind fun q1 => (Fb.j0 k ji9 a3 (!q1) e2 e3 d3 d2 d4))) else (Fb.j0 k ji9 a3 true e2 e3 d3 d2 d4))) else (Fb.j0 k ji9 a3 true e2 e3 d3 d2 d4))) else (Fb.j0 k ji9 a3 true e2 e3 d3 d2 d4))) else (Fb.j0 k ji9 a3 true e2 e3 d3 d2 d4)) else (Fb.j0 k ji9 a3 true e2 e3 d3 d2 d4)) else (Fb.j0 k ji9 a3 true e2 e3 d3 d2 d4))))) = some r := by first | (rw [hji10] at H; exact H) | (simp only [hji10] at H ⊢; exact H)
  (try rw [hji10] at A5)
  (try rw [hji10] at A6)
  have AD : (if a2 < (ji9) then (ji9) else a2) = ji10 := hji10
  obtain ⟨ji11, hji11⟩ : ∃ j_ : Int, (mn (ji10) 1099511627776) = j_ := ⟨_, rfl⟩
  replace H : ((Fw.f k e2 e3 d3 d2 d4 (ji9)).bind fun e1 => ((Fw.f k e1.1 e1.2.1 e1.2.2.1 e1.2.2.2.1 e1.2.2.2.2.1 (ji11)).bind fun f0 => ((Fw.f k e2 e3 d3 d2 d4 (ji11)).bind fun f6 => (if e1.2.2.2.2.2 = 0 then (if f0.2.2.2.2.2 = 0 then (if f6.2.2.2.2.2 = 0 then ((Fl.f k f0.1 f0.2.1 f0.2.2.1 f0.2.2.2.1 f0.2.2.2.2.1 f6.1 f6.2.1 f6.2.2.1 f6.2.2.2.1 f6.2.2.2.2.1).bind fun r3 => (if r3 = true then ((Fa.f k e1.1 e1.2.1 e1.2.2.1 e1.2.2.2.1 e1.2.2.2.2.1).bind fun r4 => (if r4 = true then ((Fa.f k f0.1 f0.2.1 f0.2.2.1 f0.2.2.2.1 f0.2.2.2.2.1).bind fun r5 => (if r5 = true then (if d2 = 0 then (Fb.j0 k ji9 a3 false e2 e3 d3 d2 d4) else ((Fl.f k e1.1 e1.2.1 e1.2.2.1 e1.2.2.2.1 e1.2.2.2.2.1 e2 e3 d3 d2 d4).bind fun q1 => (Fb.j0 k ji9 a3 (!q1) e2 e3 d3 d2 d4))) else (Fb.j0 k ji9 a3 true e2 e3 d3 d2 d4))) else (Fb.j0 k ji9 a3 true e2 e3 d3 d2 d4))) else (Fb.j0 k ji9 a3 true e2 e3 d3 d2 d4))) else (Fb.j0 k ji9 a3 true e2 e3 d3 d2 d4)) else (Fb.j0 k ji9 a3 true e2 e3 d3 d2 d4)) else (Fb.j0 k ji9 a3 true e2 e3 d3 d2 d4))))) = some r := by first | (rw [hji11] at H; exact H) | (simp only [hji11] at H ⊢; exact H)
  (try rw [hji11] at A5)
  (try rw [hji11] at A6)
  have AE : (if 1099511627776 < (ji10) then 1099511627776 else (ji10)) = ji11 := hji11
  replace H := Option.bind_eq_some_iff.mp H
  obtain ⟨⟨j6, j7, g8, j8, g9, X2⟩, I7, H⟩ := H
  try dsimp only at H
  have DZ := am I7
  clear I7
  replace H := Option.bind_eq_some_iff.mp H
  obtain ⟨⟨j9, k0, h6, k1, h7, X3⟩, I8, H⟩ := H
  try dsimp only at H
  have Ea := am I8
  clear I8
  replace H := Option.bind_eq_some_iff.mp H
  obtain ⟨⟨k2, k4, h8, k5, h9, X4⟩, K0, H⟩ := H
  try dsimp only at H
  have Eb := am K0
  clear K0
  have E1 := am H
  clear H
  go_enter Try.func8, Try.ntmps8
  go_upto_region 9 with (first | ((with_reducible refine gD 4 ?_); refine bz 4 #[.string r9, .string s0, .slice t4 p2.length t7, .int .i64 s1, .slice t5 p3.length t8] 27 HB ?_; clear HB; intro b4 hg EX hb a6 n3 HB; clear hb hg; have q5 := y5 a6) | ((with_reducible refine gC 9 ?_); refine gL 22 Try.func9 #[.agg #[.string r9, .string s0, .slice t4 p2.length t7, .int .i64 s1, .slice t5 p3.length t8]] ?_; (with_reducible refine (F5.calls k r9 s0 (fun k_ => k_ < w.heap.size) _ _ p2 s1 (fun k_ => k_ < w.heap.size) _ _ p3 e2 e3 d3 d2 d4 _ ?side1 ?side2 A5.out).mono ?_); (case side1 => exact Kd.V_mk B8.out (Kd.F_below (Kd.C_F k49_heap C0.out) (pB HB.out))); (case side2 => exact Kd.V_mk B9.out (Kd.F_below (Kd.C_F k51_heap C1.out) (pB HB.out))); rintro e EY ⟨CN, CO, rfl, g6, g7, hb⟩; refine ⟨_, rfl, ?_⟩; have d9 := vL (ok' := fun k_ => k_ ≠ b4) HB g6 (fun k_ d8 => Or.elim d8 (fun a0 => Or.elim a0 (nw n3) (nw n3)) (fB a6)); have e0 := vL (ok' := fun k_ => k_ ≠ b4) HB g7 (fun k_ d8 => Or.elim d8 (fun a0 => Or.elim a0 (nw n3) (nw n3)) (fB a6)); replace a6 := kB a6 hb; replace HB := bS HB hb; (try clear hb); (try clear g6); (try clear g7); have q6 := y5 a6; obtain ⟨g0, g2, Av⟩ := Kd.V_slice d9.out; subst Av; obtain ⟨g1, g3, Aw⟩ := Kd.V_slice e0.out; subst Aw) | ((with_reducible refine gC 15 ?_); refine gL 24 Try.func15 #[.agg #[.string e2, .string e3, .slice g0 d3.length g2, .int .i64 d2, .slice g1 d4.length g3]] ?_; (with_reducible refine (Fa.calls k e2 e3 _ _ d3 d2 _ _ d4 true _ ?side1 ?side2 ?side3 ?side4 A6.out).mono ?_); (case side1 => exact (Kd.V_reads' (pV d9.out)).2.2); (case side2 => exact (Kd.V_reads' d9.out).2.1); (case side3 => exact (Kd.V_reads' (pV e0.out)).2.2); (case side4 => exact (Kd.V_reads' e0.out).2.1); rintro e EZ ⟨rfl, hb⟩; refine ⟨_, rfl, ?_⟩; replace d9 := vB d9 hb; replace e0 := vB e0 hb; replace a6 := am (q0b (g := b4) (o := .cells #[.string e2, .string e3, .slice g0 d3.length g2, .int .i64 d2, .slice g1 d4.length g3] 27 (0, 0)) (pP a6.out) hb); replace HB := bS HB hb; (try clear hb); have q7 := y5 a6) | ((with_reducible refine gC 14 ?_); refine gL 37 Try.func14 #[.agg #[.string e2, .string e3, .slice g0 d3.length g2, .int .i64 d2, .slice g1 d4.length g3], .int .i64 ji9] ?_; (with_reducible refine (Fw.calls k e2 e3 (fun k_ => k_ ≠ b4) _ _ d3 d2 (fun k_ => k_ ≠ b4) _ _ d4 ji9 j6 j7 g8 j8 g9 X2 _ ?side1 ?side2 DZ.out).mono ?_); (case side1 => exact d9.out); (case side2 => exact e0.out); rintro e Ha ⟨Ee, Ef, rfl, g6, g7, hb⟩; refine ⟨_, rfl, ?_⟩; replace d9 := vB d9 hb; replace e0 := vB e0 hb; have e4 := vL (ok' := fun k_ => k_ ≠ b4) HB g6 (fun k_ d8 => Or.elim d8 (fun a0 => Or.elim a0 (fun a0 => a0) (fun a0 => a0)) (fB a6)); have e5 := vL (ok' := fun k_ => k_ ≠ b4) HB g7 (fun k_ d8 => Or.elim d8 (fun a0 => Or.elim a0 (fun a0 => a0) (fun a0 => a0)) (fB a6)); replace a6 := kB a6 hb; replace HB := bS HB hb; (try clear hb); (try clear g6); (try clear g7)) | ((with_reducible refine gD 9 ?_); refine bz 9 #[.string (⟨#[]⟩ : ByteArray), .string (⟨#[]⟩ : ByteArray), .slice none 0 0, .int .i64 0, .slice none 0 0] 27 HB ?_; clear HB; intro b6 hg EF hb b3 Dl HB; replace d9 := vE d9 hg hb; replace e0 := vE e0 hg hb; replace e4 := vE e4 hg hb; replace e5 := vE e5 hg hb; have f7 := nL hg a6; have j4 := nG hg a6; replace a6 := kB a6 hb; clear hb hg; have DB := nn j4; have q8 := y5 b3; obtain ⟨l2, l6, Ax⟩ := Kd.V_slice e4.out; subst Ax; obtain ⟨l3, l7, Ay⟩ := Kd.V_slice e5.out; subst Ay) | ((with_reducible refine q2g (t := 27) (p := 9) rfl ?_); refine q1y (t := 27) (p := 9) (v := ?vo_w30) (w1 := (((((EF.setCell ⟨b6, 0, none⟩ (.string j6)).setCell ⟨b6, 1, none⟩ (.string j7)).setCell ⟨b6, 2, none⟩ (.slice l2 g8.length l6)).setCell ⟨b6, 3, none⟩ (.int .i64 j8)).setCell ⟨b6, 4, none⟩ (.slice l3 g9.length l7))) ?hg ?ho ?hn ?hr ?_; (case ho => rfl); (case hg => rfl); (case hn => rfl); (case hr => first | (go_simp; done) | (go_simp; rfl)); intro I1 hw; have p4 : q0f (Kd.V k49 49 I1 w.heap.size (fun k_ => k_ ≠ b4 ∧ k_ ≠ b6) (.slice g0 d3.length g2) d3) := ⟨(by rw [hw]; exact (pV d9.out))⟩; have p5 : q0f (Kd.V k51 51 I1 w.heap.size (fun k_ => k_ ≠ b4 ∧ k_ ≠ b6) (.slice g1 d4.length g3) d4) := ⟨(by rw [hw]; exact (pV e0.out))⟩; have p6 : q0f (Kd.V k49 49 I1 w.heap.size (fun k_ => k_ ≠ b4 ∧ k_ ≠ b6) (.slice l2 g8.length l6) g8) := ⟨(by rw [hw]; exact (pV e4.out))⟩; have p7 : q0f (Kd.V k51 51 I1 w.heap.size (fun k_ => k_ ≠ b4 ∧ k_ ≠ b6) (.slice l3 g9.length l7) g9) := ⟨(by rw [hw]; exact (pV e5.out))⟩; have p8 : q0f (I1.heap[b4]? = some (.cells #[.string e2, .string e3, .slice g0 d3.length g2, .int .i64 d2, .slice g1 d4.length g3] 27 (0, 0))) := ⟨(by rw [hw]; exact (pk a6.out))⟩; have p9 : q0f (I1.heap[b6]? = some (.cells #[.string j6, .string j7, .slice l2 g8.length l6, .int .i64 j8, .slice l3 g9.length l7] 27 (0, 0))) := ⟨(by rw [hw]; exact (pP b3.out))⟩; have q0 : q0f (Below w.heap.size w I1) := ⟨(by rw [hw]; exact (pB HB.out))⟩; clear hw d9 e0 e4 e5 a6 b3 HB; have d9 := p4; have e0 := p5; have e4 := p6; have e5 := p7; have a6 := p8; have b3 := p9; have HB := q0; clear p4 p5 p6 p7 p8 p9 q0; have q9 := y5 b3) | ((with_reducible refine gC 14 ?_); refine gL 43 Try.func14 #[.agg #[.string j6, .string j7, .slice l2 g8.length l6, .int .i64 j8, .slice l3 g9.length l7], .int .i64 ji11] ?_; (with_reducible refine (Fw.calls k j6 j7 (fun k_ => (k_ ≠ b4 ∧ k_ ≠ b6)) _ _ g8 j8 (fun k_ => (k_ ≠ b4 ∧ k_ ≠ b6)) _ _ g9 ji11 j9 k0 h6 k1 h7 X3 _ ?side1 ?side2 Ea.out).mono ?_); (case side1 => exact e4.out); (case side2 => exact e5.out); rintro e Hb ⟨Eg, Eh, rfl, g6, g7, hb⟩; refine ⟨_, rfl, ?_⟩; replace d9 := vB d9 hb; replace e0 := vB e0 hb; replace e4 := vB e4 hb; replace e5 := vB e5 hb; have e6 := vL (ok' := fun k_ => k_ ≠ b4 ∧ k_ ≠ b6) HB g6 (fun k_ d8 => ⟨Or.elim d8 (fun a0 => Or.elim a0 (fun a0 => a0.1) (fun a0 => a0.1)) (fB a6), Or.elim d8 (fun a0 => Or.elim a0 (fun a0 => a0.2) (fun a0 => a0.2)) (fB b3)⟩); have e7 := vL (ok' := fun k_ => k_ ≠ b4 ∧ k_ ≠ b6) HB g7 (fun k_ d8 => ⟨Or.elim d8 (fun a0 => Or.elim a0 (fun a0 => a0.1) (fun a0 => a0.1)) (fB a6), Or.elim d8 (fun a0 => Or.elim a0 (fun a0 => a0.2) (fun a0 => a0.2)) (fB b3)⟩); replace a6 := kB a6 hb; replace b3 := kB b3 hb; replace HB := bS HB hb; (try clear hb); (try clear g6); (try clear g7)) | ((with_reducible refine gD 11 ?_); refine bz 11 #[.string (⟨#[]⟩ : ByteArray), .string (⟨#[]⟩ : ByteArray), .slice none 0 0, .int .i64 0, .slice none 0 0] 27 HB ?_; clear HB; intro b9 hg EP hb b5 Dm HB; replace d9 := vE d9 hg hb; replace e0 := vE e0 hg hb; replace e4 := vE e4 hg hb; replace e5 := vE e5 hg hb; replace e6 := vE e6 hg hb; replace e7 := vE e7 hg hb; have f8 := nL hg a6; have i1 := nG hg a6; replace a6 := kB a6 hb; have I2 := nL hg b3; have i2 := nG hg b3; replace b3 := kB b3 hb; clear hb hg; have DC := nn i1; have DD := nn i2; have r0 := y5 b5; obtain ⟨n1, n4, Az⟩ := Kd.V_slice e6.out; subst Az; obtain ⟨n2, n5, AA⟩ := Kd.V_slice e7.out; subst AA) | ((with_reducible refine q2g (t := 27) (p := 11) rfl ?_); refine q1y (t := 27) (p := 11) (v := ?vo_w39) (w1 := (((((EP.setCell ⟨b9, 0, none⟩ (.string j9)).setCell ⟨b9, 1, none⟩ (.string k0)).setCell ⟨b9, 2, none⟩ (.slice n1 h6.length n4)).setCell ⟨b9, 3, none⟩ (.int .i64 k1)).setCell ⟨b9, 4, none⟩ (.slice n2 h7.length n5))) ?hg ?ho ?hn ?hr ?_; (case ho => rfl); (case hg => rfl); (case hn => rfl); (case hr => first | (go_simp; done) | (go_simp; rfl)); intro Ae hw; have p4 := vW (ok' := fun k_ => k_ ≠ b4 ∧ k_ ≠ b6 ∧ k_ ≠ b9) hw d9; have p5 := vW (ok' := fun k_ => k_ ≠ b4 ∧ k_ ≠ b6 ∧ k_ ≠ b9) hw e0; have p6 := vW (ok' := fun k_ => k_ ≠ b4 ∧ k_ ≠ b6 ∧ k_ ≠ b9) hw e4; have p7 := vW (ok' := fun k_ => k_ ≠ b4 ∧ k_ ≠ b6 ∧ k_ ≠ b9) hw e5; have p8 := vW (ok' := fun k_ => k_ ≠ b4 ∧ k_ ≠ b6 ∧ k_ ≠ b9) hw e6; have p9 := vW (ok' := fun k_ => k_ ≠ b4 ∧ k_ ≠ b6 ∧ k_ ≠ b9) hw e7; have q0 : q0f (Ae.heap[b4]? = some (.cells #[.string e2, .string e3, .slice g0 d3.length g2, .int .i64 d2, .slice g1 d4.length g3] 27 (0, 0))) := ⟨(by rw [hw]; exact (pk a6.out))⟩; have q2 : q0f (Ae.heap[b6]? = some (.cells #[.string j6, .string j7, .slice l2 g8.length l6, .int .i64 j8, .slice l3 g9.length l7] 27 (0, 0))) := ⟨(by rw [hw]; exact (pk b3.out))⟩; have q3 : q0f (Ae.heap[b9]? = some (.cells #[.string j9, .string k0, .slice n1 h6.length n4, .int .i64 k1, .slice n2 h7.length n5] 27 (0, 0))) := ⟨(by rw [hw]; exact (pP b5.out))⟩; have q4 : q0f (Below w.heap.size w Ae) := ⟨(by rw [hw]; exact (pB HB.out))⟩; clear hw d9 e0 e4 e5 e6 e7 a6 b3 b5 HB; have d9 := p4; have e0 := p5; have e4 := p6; have e5 := p7; have e6 := p8; have e7 := p9; have a6 := q0; have b3 := q2; have b5 := q3; have HB := q4; clear p4 p5 p6 p7 p8 p9 q0 q2 q3 q4; have r1 := y5 a6) | ((with_reducible refine gC 14 ?_); refine gL 49 Try.func14 #[.agg #[.string e2, .string e3, .slice g0 d3.length g2, .int .i64 d2, .slice g1 d4.length g3], .int .i64 ji11] ?_; (with_reducible refine (Fw.calls k e2 e3 (fun k_ => (k_ ≠ b4 ∧ (k_ ≠ b6 ∧ k_ ≠ b9))) _ _ d3 d2 (fun k_ => (k_ ≠ b4 ∧ (k_ ≠ b6 ∧ k_ ≠ b9))) _ _ d4 ji11 k2 k4 h8 k5 h9 X4 _ ?side1 ?side2 Eb.out).mono ?_); (case side1 => exact d9.out); (case side2 => exact e0.out); rintro e Hc ⟨Ei, Ej, rfl, g6, g7, hb⟩; refine ⟨_, rfl, ?_⟩; replace d9 := vB d9 hb; replace e0 := vB e0 hb; replace e4 := vB e4 hb; replace e5 := vB e5 hb; replace e6 := vB e6 hb; replace e7 := vB e7 hb; have e8 := vL (ok' := fun k_ => k_ ≠ b4 ∧ k_ ≠ b6 ∧ k_ ≠ b9) HB g6 (fun k_ d8 => ⟨Or.elim d8 (fun a0 => Or.elim a0 (fun a0 => a0.1) (fun a0 => a0.1)) (fB a6), Or.elim d8 (fun a0 => Or.elim a0 (fun a0 => a0.2.1) (fun a0 => a0.2.1)) (fB b3), Or.elim d8 (fun a0 => Or.elim a0 (fun a0 => a0.2.2) (fun a0 => a0.2.2)) (fB b5)⟩); have e9 := vL (ok' := fun k_ => k_ ≠ b4 ∧ k_ ≠ b6 ∧ k_ ≠ b9) HB g7 (fun k_ d8 => ⟨Or.elim d8 (fun a0 => Or.elim a0 (fun a0 => a0.1) (fun a0 => a0.1)) (fB a6), Or.elim d8 (fun a0 => Or.elim a0 (fun a0 => a0.2.1) (fun a0 => a0.2.1)) (fB b3), Or.elim d8 (fun a0 => Or.elim a0 (fun a0 => a0.2.2) (fun a0 => a0.2.2)) (fB b5)⟩); replace a6 := kB a6 hb; replace b3 := kB b3 hb; replace b5 := kB b5 hb; replace HB := bS HB hb; (try clear hb); (try clear g6); (try clear g7)) | ((with_reducible refine gD 13 ?_); refine bz 13 #[.string (⟨#[]⟩ : ByteArray), .string (⟨#[]⟩ : ByteArray), .slice none 0 0, .int .i64 0, .slice none 0 0] 27 HB ?_; clear HB; intro c8 hg Hd hb c6 Dn HB; replace d9 := vE d9 hg hb; replace e0 := vE e0 hg hb; replace e4 := vE e4 hg hb; replace e5 := vE e5 hg hb; replace e6 := vE e6 hg hb; replace e7 := vE e7 hg hb; replace e8 := vE e8 hg hb; replace e9 := vE e9 hg hb; have f9 := nL hg a6; have i3 := nG hg a6; replace a6 := kB a6 hb; have I3 := nL hg b3; have i4 := nG hg b3; replace b3 := kB b3 hb; have j5 := nL hg b5; have t6 := nG hg b5; replace b5 := kB b5 hb; clear hb hg; have DE := nn i3; have DF := nn i4; have DG := nn t6; have r2 := y5 c6; obtain ⟨l4, l8, AB⟩ := Kd.V_slice e8.out; subst AB; obtain ⟨l5, l9, AC⟩ := Kd.V_slice e9.out; subst AC))
  (try simp only [Act.put, List.setIfInBounds_toArray, List.set_cons_zero, List.set_cons_succ])
  go_cut [88] (fun Ek wc => ∃ (kq : Nat) (r7 : Bool), Ek = .bool r7 ∧ q0f (Fb.j0 kq ji9 a3 r7 e2 e3 d3 d2 d4 = some r) ∧ q0f (kq ≤ k) ∧ q0f (Kd.V k49 49 wc w.heap.size (fun k_ => k_ ≠ b4 ∧ k_ ≠ b6 ∧ k_ ≠ b9 ∧ k_ ≠ c8) (.slice g0 d3.length g2) d3) ∧ q0f (Kd.V k51 51 wc w.heap.size (fun k_ => k_ ≠ b4 ∧ k_ ≠ b6 ∧ k_ ≠ b9 ∧ k_ ≠ c8) (.slice g1 d4.length g3) d4) ∧ q0f (Kd.V k49 49 wc w.heap.size (fun k_ => k_ ≠ b4 ∧ k_ ≠ b6 ∧ k_ ≠ b9 ∧ k_ ≠ c8) (.slice l2 g8.length l6) g8) ∧ q0f (Kd.V k51 51 wc w.heap.size (fun k_ => k_ ≠ b4 ∧ k_ ≠ b6 ∧ k_ ≠ b9 ∧ k_ ≠ c8) (.slice l3 g9.length l7) g9) ∧ q0f (Kd.V k49 49 wc w.heap.size (fun k_ => k_ ≠ b4 ∧ k_ ≠ b6 ∧ k_ ≠ b9 ∧ k_ ≠ c8) (.slice n1 h6.length n4) h6) ∧ q0f (Kd.V k51 51 wc w.heap.size (fun k_ => k_ ≠ b4 ∧ k_ ≠ b6 ∧ k_ ≠ b9 ∧ k_ ≠ c8) (.slice n2 h7.length n5) h7) ∧ q0f (Kd.V k49 49 wc w.heap.size (fun k_ => k_ ≠ b4 ∧ k_ ≠ b6 ∧ k_ ≠ b9 ∧ k_ ≠ c8) (.slice l4 h8.length l8) h8) ∧ q0f (Kd.V k51 51 wc w.heap.size (fun k_ => k_ ≠ b4 ∧ k_ ≠ b6 ∧ k_ ≠ b9 ∧ k_ ≠ c8) (.slice l5 h9.length l9) h9) ∧ q0f (wc.heap[b4]? = some (.cells #[.string e2, .string e3, (.slice g0 d3.length g2), .int .i64 d2, (.slice g1 d4.length g3)] 27 (0, 0))) ∧ q0f (wc.heap[b6]? = some (.cells #[.string j6, .string j7, (.slice l2 g8.length l6), .int .i64 j8, (.slice l3 g9.length l7)] 27 (0, 0))) ∧ q0f (wc.heap[b9]? = some (.cells #[.string j9, .string k0, (.slice n1 h6.length n4), .int .i64 k1, (.slice n2 h7.length n5)] 27 (0, 0))) ∧ q0f (wc.heap[c8]? = some (.cells #[.string k2, .string k4, (.slice l4 h8.length l8), .int .i64 k5, (.slice l5 h9.length l9)] 27 (0, 0))) ∧ q0f (Below w.heap.size w wc))
  case first =>
   have H := E1.out
   clear E1
   by_cases L7 : X2 = 0
   ·
    rw [if_pos L7] at H
    obtain ⟨s2, L8⟩ := qt L7
    clear L7
    (first | rw [s2] | (simp only [q2r, q2u]; rw [s2]) | skip)
    by_cases L9 : X3 = 0
    ·
     rw [if_pos L9] at H
     obtain ⟨M0, M1⟩ := qt L9
     clear L9
     by_cases M2 : X4 = 0
     ·
      rw [if_pos M2] at H
      obtain ⟨M3, M4⟩ := qt M2
      clear M2
      replace H := Option.bind_eq_some_iff.mp H
      obtain ⟨r3, K5, H⟩ := H
      try dsimp only at H
      have K4 := am K5
      clear K5
      by_cases X7 : r3 = true
      ·
       subst X7
       rw [if_pos rfl] at H
       try dsimp only at H
       replace H := Option.bind_eq_some_iff.mp H
       obtain ⟨r4, K6, H⟩ := H
       try dsimp only at H
       have X6 := am K6
       clear K6
       by_cases X8 : r4 = true
       ·
        subst X8
        rw [if_pos rfl] at H
        try dsimp only at H
        replace H := Option.bind_eq_some_iff.mp H
        obtain ⟨r5, K7, H⟩ := H
        try dsimp only at H
        have Am := am K7
        clear K7
        by_cases X9 : r5 = true
        ·
         subst X9
         rw [if_pos rfl] at H
         try dsimp only at H
         by_cases M5 : d2 = 0
         ·
          rw [if_pos M5] at H
          obtain ⟨M6, M7⟩ := qt M5
          clear M5
          have H' := am H
          clear H
          have DH := nn i1
          have DI := nn i2
          have DJ := nn j5
          have Z0 := y5 b5
          have DK := nn i3
          have DL := nn i4
          have Z1 := y5 c6
          go_wp2_with (first | (go_at_call 12; (with_reducible refine (Fl.calls k j9 k0 _ _ h6 k1 _ _ h7 k2 k4 _ _ h8 k5 _ _ h9 true _ ?side1 ?side2 ?side3 ?side4 ?side5 ?side6 ?side7 ?side8 K4.out).mono ?_); (case side1 => exact (Kd.V_reads' (pV e6.out)).2.2); (case side2 => exact (Kd.V_reads' e6.out).2.1); (case side3 => exact (Kd.V_reads' (pV e7.out)).2.2); (case side4 => exact (Kd.V_reads' e7.out).2.1); (case side5 => exact (Kd.V_reads' (pV e8.out)).2.2); (case side6 => exact (Kd.V_reads' e8.out).2.1); (case side7 => exact (Kd.V_reads' (pV e9.out)).2.2); (case side8 => exact (Kd.V_reads' e9.out).2.1); rintro e He ⟨rfl, hb⟩; replace d9 := vB d9 hb; replace e0 := vB e0 hb; replace e4 := vB e4 hb; replace e5 := vB e5 hb; replace e6 := vB e6 hb; replace e7 := vB e7 hb; replace e8 := vB e8 hb; replace e9 := vB e9 hb; replace a6 := kB a6 hb; replace b3 := kB b3 hb; replace b5 := kB b5 hb; replace c6 := am (q0b (g := c8) (o := .cells #[.string k2, .string k4, .slice l4 h8.length l8, .int .i64 k5, .slice l5 h9.length l9] 27 (0, 0)) (pP c6.out) hb); replace HB := bS HB hb; (try clear hb); have DM := nn j4; have Z2 := y5 b3) | (go_at_call 15; (with_reducible refine (Fa.calls k j6 j7 _ _ g8 j8 _ _ g9 true _ ?side1 ?side2 ?side3 ?side4 X6.out).mono ?_); (case side1 => exact pC ((Kd.V_reads' e4.out).2.2)); (case side2 => exact (Kd.V_reads' e4.out).2.1); (case side3 => exact pC ((Kd.V_reads' e5.out).2.2)); (case side4 => exact (Kd.V_reads' e5.out).2.1); rintro e Hf ⟨rfl, hb⟩; replace d9 := vB d9 hb; replace e0 := vB e0 hb; replace e4 := vB e4 hb; replace e5 := vB e5 hb; replace e6 := vB e6 hb; replace e7 := vB e7 hb; replace e8 := vB e8 hb; replace e9 := vB e9 hb; replace a6 := kB a6 hb; replace b3 := kB b3 hb; replace b5 := kB b5 hb; replace c6 := kB c6 hb; replace HB := bS HB hb; (try clear hb); have Z3 := y5 b5) | (go_at_call 15; (with_reducible refine (Fa.calls k j9 k0 _ _ h6 k1 _ _ h7 true _ ?side1 ?side2 ?side3 ?side4 Am.out).mono ?_); (case side1 => exact pC ((Kd.V_reads' e6.out).2.2)); (case side2 => exact (Kd.V_reads' e6.out).2.1); (case side3 => exact pC ((Kd.V_reads' e7.out).2.2)); (case side4 => exact (Kd.V_reads' e7.out).2.1); rintro e Hg ⟨rfl, hb⟩; replace d9 := vB d9 hb; replace e0 := vB e0 hb; replace e4 := vB e4 hb; replace e5 := vB e5 hb; replace e6 := vB e6 hb; replace e7 := vB e7 hb; replace e8 := vB e8 hb; replace e9 := vB e9 hb; replace a6 := kB a6 hb; replace b3 := kB b3 hb; replace b5 := kB b5 hb; replace c6 := kB c6 hb; replace HB := bS HB hb; (try clear hb); have Z4 := y5 a6))
          go_meet
          case rel => exact ⟨_, (false), el, H', ol, (vM d9), (vM e0), (vM e4), (vM e5), (vM e6), (vM e7), (vM e8), (vM e9), ⟨pk a6.out⟩, ⟨pk b3.out⟩, ⟨pk b5.out⟩, ⟨pk c6.out⟩, ⟨pB HB.out⟩⟩
         rw [if_neg M5] at H
         obtain ⟨M6, M7⟩ := qf M5
         replace H := Option.bind_eq_some_iff.mp H
         obtain ⟨q1, K8, H⟩ := H
         try dsimp only at H
         have Ec := am K8
         clear K8
         have H' := am H
         clear H
         have DN := nn i1
         have DO := nn i2
         have DP := nn j5
         have Z5 := y5 b5
         have DQ := nn i3
         have DR := nn i4
         have Z6 := y5 c6
         go_wp2_with (first | (go_at_call 12; (with_reducible refine (Fl.calls k j9 k0 _ _ h6 k1 _ _ h7 k2 k4 _ _ h8 k5 _ _ h9 true _ ?side1 ?side2 ?side3 ?side4 ?side5 ?side6 ?side7 ?side8 K4.out).mono ?_); (case side1 => exact (Kd.V_reads' (pV e6.out)).2.2); (case side2 => exact (Kd.V_reads' e6.out).2.1); (case side3 => exact (Kd.V_reads' (pV e7.out)).2.2); (case side4 => exact (Kd.V_reads' e7.out).2.1); (case side5 => exact (Kd.V_reads' (pV e8.out)).2.2); (case side6 => exact (Kd.V_reads' e8.out).2.1); (case side7 => exact (Kd.V_reads' (pV e9.out)).2.2); (case side8 => exact (Kd.V_reads' e9.out).2.1); rintro e Hh ⟨rfl, hb⟩; replace d9 := vB d9 hb; replace e0 := vB e0 hb; replace e4 := vB e4 hb; replace e5 := vB e5 hb; replace e6 := vB e6 hb; replace e7 := vB e7 hb; replace e8 := vB e8 hb; replace e9 := vB e9 hb; replace a6 := kB a6 hb; replace b3 := kB b3 hb; replace b5 := kB b5 hb; replace c6 := am (q0b (g := c8) (o := .cells #[.string k2, .string k4, .slice l4 h8.length l8, .int .i64 k5, .slice l5 h9.length l9] 27 (0, 0)) (pP c6.out) hb); replace HB := bS HB hb; (try clear hb); have DS := nn j4; have Z7 := y5 b3) | (go_at_call 15; (with_reducible refine (Fa.calls k j6 j7 _ _ g8 j8 _ _ g9 true _ ?side1 ?side2 ?side3 ?side4 X6.out).mono ?_); (case side1 => exact pC ((Kd.V_reads' e4.out).2.2)); (case side2 => exact (Kd.V_reads' e4.out).2.1); (case side3 => exact pC ((Kd.V_reads' e5.out).2.2)); (case side4 => exact (Kd.V_reads' e5.out).2.1); rintro e Hi ⟨rfl, hb⟩; replace d9 := vB d9 hb; replace e0 := vB e0 hb; replace e4 := vB e4 hb; replace e5 := vB e5 hb; replace e6 := vB e6 hb; replace e7 := vB e7 hb; replace e8 := vB e8 hb; replace e9 := vB e9 hb; replace a6 := kB a6 hb; replace b3 := kB b3 hb; replace b5 := kB b5 hb; replace c6 := kB c6 hb; replace HB := bS HB hb; (try clear hb); have Z8 := y5 b5) | (go_at_call 15; (with_reducible refine (Fa.calls k j9 k0 _ _ h6 k1 _ _ h7 true _ ?side1 ?side2 ?side3 ?side4 Am.out).mono ?_); (case side1 => exact pC ((Kd.V_reads' e6.out).2.2)); (case side2 => exact (Kd.V_reads' e6.out).2.1); (case side3 => exact pC ((Kd.V_reads' e7.out).2.2)); (case side4 => exact (Kd.V_reads' e7.out).2.1); rintro e Hj ⟨rfl, hb⟩; replace d9 := vB d9 hb; replace e0 := vB e0 hb; replace e4 := vB e4 hb; replace e5 := vB e5 hb; replace e6 := vB e6 hb; replace e7 := vB e7 hb; replace e8 := vB e8 hb; replace e9 := vB e9 hb; replace a6 := kB a6 hb; replace b3 := kB b3 hb; replace b5 := kB b5 hb; replace c6 := kB c6 hb; replace HB := bS HB hb; (try clear hb); have Z9 := y5 a6; have Aa := y5 b3) | (go_at_call 12; (with_reducible refine (Fl.calls k j6 j7 _ _ g8 j8 _ _ g9 e2 e3 _ _ d3 d2 _ _ d4 q1 _ ?side1 ?side2 ?side3 ?side4 ?side5 ?side6 ?side7 ?side8 Ec.out).mono ?_); (case side1 => exact pC ((Kd.V_reads' e4.out).2.2)); (case side2 => exact (Kd.V_reads' e4.out).2.1); (case side3 => exact pC ((Kd.V_reads' e5.out).2.2)); (case side4 => exact (Kd.V_reads' e5.out).2.1); (case side5 => exact pC ((Kd.V_reads' d9.out).2.2)); (case side6 => exact (Kd.V_reads' d9.out).2.1); (case side7 => exact pC ((Kd.V_reads' e0.out).2.2)); (case side8 => exact (Kd.V_reads' e0.out).2.1); rintro e Hk ⟨rfl, hb⟩; replace d9 := vB d9 hb; replace e0 := vB e0 hb; replace e4 := vB e4 hb; replace e5 := vB e5 hb; replace e6 := vB e6 hb; replace e7 := vB e7 hb; replace e8 := vB e8 hb; replace e9 := vB e9 hb; replace a6 := kB a6 hb; replace b3 := kB b3 hb; replace b5 := kB b5 hb; replace c6 := kB c6 hb; replace HB := bS HB hb; (try clear hb)))
         go_meet
         case rel => exact ⟨_, (!q1), el, H', ol, (vM d9), (vM e0), (vM e4), (vM e5), (vM e6), (vM e7), (vM e8), (vM e9), ⟨pk a6.out⟩, ⟨pk b3.out⟩, ⟨pk b5.out⟩, ⟨pk c6.out⟩, ⟨pB HB.out⟩⟩
        replace X9 := Bool.eq_false_iff.mpr X9
        subst X9
        rw [if_neg (show ¬ (false = true) by decide)] at H
        try dsimp only at H
        have H' := am H
        clear H
        have DT := nn i1
        have DU := nn i2
        have DV := nn j5
        have Ab := y5 b5
        have DW := nn i3
        have DX := nn i4
        have Ac := y5 c6
        go_wp2_with (first | (go_at_call 12; (with_reducible refine (Fl.calls k j9 k0 _ _ h6 k1 _ _ h7 k2 k4 _ _ h8 k5 _ _ h9 true _ ?side1 ?side2 ?side3 ?side4 ?side5 ?side6 ?side7 ?side8 K4.out).mono ?_); (case side1 => exact (Kd.V_reads' (pV e6.out)).2.2); (case side2 => exact (Kd.V_reads' e6.out).2.1); (case side3 => exact (Kd.V_reads' (pV e7.out)).2.2); (case side4 => exact (Kd.V_reads' e7.out).2.1); (case side5 => exact (Kd.V_reads' (pV e8.out)).2.2); (case side6 => exact (Kd.V_reads' e8.out).2.1); (case side7 => exact (Kd.V_reads' (pV e9.out)).2.2); (case side8 => exact (Kd.V_reads' e9.out).2.1); rintro e Hl ⟨rfl, hb⟩; replace d9 := vB d9 hb; replace e0 := vB e0 hb; replace e4 := vB e4 hb; replace e5 := vB e5 hb; replace e6 := vB e6 hb; replace e7 := vB e7 hb; replace e8 := vB e8 hb; replace e9 := vB e9 hb; replace a6 := kB a6 hb; replace b3 := kB b3 hb; replace b5 := kB b5 hb; replace c6 := am (q0b (g := c8) (o := .cells #[.string k2, .string k4, .slice l4 h8.length l8, .int .i64 k5, .slice l5 h9.length l9] 27 (0, 0)) (pP c6.out) hb); replace HB := bS HB hb; (try clear hb); have DY := nn j4; have Ad := y5 b3) | (go_at_call 15; (with_reducible refine (Fa.calls k j6 j7 _ _ g8 j8 _ _ g9 true _ ?side1 ?side2 ?side3 ?side4 X6.out).mono ?_); (case side1 => exact pC ((Kd.V_reads' e4.out).2.2)); (case side2 => exact (Kd.V_reads' e4.out).2.1); (case side3 => exact pC ((Kd.V_reads' e5.out).2.2)); (case side4 => exact (Kd.V_reads' e5.out).2.1); rintro e En ⟨rfl, hb⟩; replace d9 := vB d9 hb; replace e0 := vB e0 hb; replace e4 := vB e4 hb; replace e5 := vB e5 hb; replace e6 := vB e6 hb; replace e7 := vB e7 hb; replace e8 := vB e8 hb; replace e9 := vB e9 hb; replace a6 := kB a6 hb; replace b3 := kB b3 hb; replace b5 := kB b5 hb; replace c6 := kB c6 hb; replace HB := bS HB hb; (try clear hb); have Q8 := y5 b5) | (go_at_call 15; (with_reducible refine (Fa.calls k j9 k0 _ _ h6 k1 _ _ h7 false _ ?side1 ?side2 ?side3 ?side4 Am.out).mono ?_); (case side1 => exact pC ((Kd.V_reads' e6.out).2.2)); (case side2 => exact (Kd.V_reads' e6.out).2.1); (case side3 => exact pC ((Kd.V_reads' e7.out).2.2)); (case side4 => exact (Kd.V_reads' e7.out).2.1); rintro e Eo ⟨rfl, hb⟩; replace d9 := vB d9 hb; replace e0 := vB e0 hb; replace e4 := vB e4 hb; replace e5 := vB e5 hb; replace e6 := vB e6 hb; replace e7 := vB e7 hb; replace e8 := vB e8 hb; replace e9 := vB e9 hb; replace a6 := kB a6 hb; replace b3 := kB b3 hb; replace b5 := kB b5 hb; replace c6 := kB c6 hb; replace HB := bS HB hb; (try clear hb)))
        go_meet
        case rel => exact ⟨_, (true), el, H', ol, (vM d9), (vM e0), (vM e4), (vM e5), (vM e6), (vM e7), (vM e8), (vM e9), ⟨pk a6.out⟩, ⟨pk b3.out⟩, ⟨pk b5.out⟩, ⟨pk c6.out⟩, ⟨pB HB.out⟩⟩
       replace X8 := Bool.eq_false_iff.mpr X8
       subst X8
       rw [if_neg (show ¬ (false = true) by decide)] at H
       try dsimp only at H
       have H' := am H
       clear H
       have AF := nn i1
       have AG := nn i2
       have AH := nn j5
       have Q9 := y5 b5
       have AI := nn i3
       have AJ := nn i4
       have R0 := y5 c6
       go_wp2_with (first | (go_at_call 12; (with_reducible refine (Fl.calls k j9 k0 _ _ h6 k1 _ _ h7 k2 k4 _ _ h8 k5 _ _ h9 true _ ?side1 ?side2 ?side3 ?side4 ?side5 ?side6 ?side7 ?side8 K4.out).mono ?_); (case side1 => exact (Kd.V_reads' (pV e6.out)).2.2); (case side2 => exact (Kd.V_reads' e6.out).2.1); (case side3 => exact (Kd.V_reads' (pV e7.out)).2.2); (case side4 => exact (Kd.V_reads' e7.out).2.1); (case side5 => exact (Kd.V_reads' (pV e8.out)).2.2); (case side6 => exact (Kd.V_reads' e8.out).2.1); (case side7 => exact (Kd.V_reads' (pV e9.out)).2.2); (case side8 => exact (Kd.V_reads' e9.out).2.1); rintro e Ep ⟨rfl, hb⟩; replace d9 := vB d9 hb; replace e0 := vB e0 hb; replace e4 := vB e4 hb; replace e5 := vB e5 hb; replace e6 := vB e6 hb; replace e7 := vB e7 hb; replace e8 := vB e8 hb; replace e9 := vB e9 hb; replace a6 := kB a6 hb; replace b3 := kB b3 hb; replace b5 := kB b5 hb; replace c6 := am (q0b (g := c8) (o := .cells #[.string k2, .string k4, .slice l4 h8.length l8, .int .i64 k5, .slice l5 h9.length l9] 27 (0, 0)) (pP c6.out) hb); replace HB := bS HB hb; (try clear hb); have AK := nn j4; have R1 := y5 b3) | (go_at_call 15; (with_reducible refine (Fa.calls k j6 j7 _ _ g8 j8 _ _ g9 false _ ?side1 ?side2 ?side3 ?side4 X6.out).mono ?_); (case side1 => exact pC ((Kd.V_reads' e4.out).2.2)); (case side2 => exact (Kd.V_reads' e4.out).2.1); (case side3 => exact pC ((Kd.V_reads' e5.out).2.2)); (case side4 => exact (Kd.V_reads' e5.out).2.1); rintro e Eq ⟨rfl, hb⟩; replace d9 := vB d9 hb; replace e0 := vB e0 hb; replace e4 := vB e4 hb; replace e5 := vB e5 hb; replace e6 := vB e6 hb; replace e7 := vB e7 hb; replace e8 := vB e8 hb; replace e9 := vB e9 hb; replace a6 := kB a6 hb; replace b3 := kB b3 hb; replace b5 := kB b5 hb; replace c6 := kB c6 hb; replace HB := bS HB hb; (try clear hb)))
       go_meet
       case rel => exact ⟨_, (true), el, H', ol, (vM d9), (vM e0), (vM e4), (vM e5), (vM e6), (vM e7), (vM e8), (vM e9), ⟨pk a6.out⟩, ⟨pk b3.out⟩, ⟨pk b5.out⟩, ⟨pk c6.out⟩, ⟨pB HB.out⟩⟩
      replace X7 := Bool.eq_false_iff.mpr X7
      subst X7
      rw [if_neg (show ¬ (false = true) by decide)] at H
      try dsimp only at H
      have H' := am H
      clear H
      have AL := nn i1
      have AM := nn i2
      have AN := nn j5
      have R2 := y5 b5
      have AO := nn i3
      have AP := nn i4
      have R3 := y5 c6
      go_wp2_with (first | (go_at_call 12; (with_reducible refine (Fl.calls k j9 k0 _ _ h6 k1 _ _ h7 k2 k4 _ _ h8 k5 _ _ h9 false _ ?side1 ?side2 ?side3 ?side4 ?side5 ?side6 ?side7 ?side8 K4.out).mono ?_); (case side1 => exact (Kd.V_reads' (pV e6.out)).2.2); (case side2 => exact (Kd.V_reads' e6.out).2.1); (case side3 => exact (Kd.V_reads' (pV e7.out)).2.2); (case side4 => exact (Kd.V_reads' e7.out).2.1); (case side5 => exact (Kd.V_reads' (pV e8.out)).2.2); (case side6 => exact (Kd.V_reads' e8.out).2.1); (case side7 => exact (Kd.V_reads' (pV e9.out)).2.2); (case side8 => exact (Kd.V_reads' e9.out).2.1); rintro e Er ⟨rfl, hb⟩; replace d9 := vB d9 hb; replace e0 := vB e0 hb; replace e4 := vB e4 hb; replace e5 := vB e5 hb; replace e6 := vB e6 hb; replace e7 := vB e7 hb; replace e8 := vB e8 hb; replace e9 := vB e9 hb; replace a6 := kB a6 hb; replace b3 := kB b3 hb; replace b5 := kB b5 hb; replace c6 := am (q0b (g := c8) (o := .cells #[.string k2, .string k4, .slice l4 h8.length l8, .int .i64 k5, .slice l5 h9.length l9] 27 (0, 0)) (pP c6.out) hb); replace HB := bS HB hb; (try clear hb)))
      go_meet
      case rel => exact ⟨_, (true), el, H', ol, (vM d9), (vM e0), (vM e4), (vM e5), (vM e6), (vM e7), (vM e8), (vM e9), ⟨pk a6.out⟩, ⟨pk b3.out⟩, ⟨pk b5.out⟩, ⟨pk c6.out⟩, ⟨pB HB.out⟩⟩
     rw [if_neg M2] at H
     obtain ⟨M3, M4⟩ := qf M2
     have H' := am H
     clear H
     go_wp2
     go_meet
     case rel => exact ⟨_, (true), el, H', ol, (vM d9), (vM e0), (vM e4), (vM e5), (vM e6), (vM e7), (vM e8), (vM e9), ⟨pk a6.out⟩, ⟨pk b3.out⟩, ⟨pk b5.out⟩, ⟨pP c6.out⟩, ⟨pB HB.out⟩⟩
    rw [if_neg L9] at H
    obtain ⟨M0, M1⟩ := qf L9
    have H' := am H
    clear H
    go_wp2
    go_meet
    case rel => exact ⟨_, (true), el, H', ol, (vM d9), (vM e0), (vM e4), (vM e5), (vM e6), (vM e7), (vM e8), (vM e9), ⟨pk a6.out⟩, ⟨pk b3.out⟩, ⟨pk b5.out⟩, ⟨pP c6.out⟩, ⟨pB HB.out⟩⟩
   rw [if_neg L7] at H
   obtain ⟨s2, L8⟩ := qf L7
   (first | rw [s2] | (simp only [q2r, q2u]; rw [s2]) | skip)
   have H' := am H
   clear H
   go_wp2
   go_meet
   case rel => exact ⟨_, (true), el, H', ol, (vM d9), (vM e0), (vM e4), (vM e5), (vM e6), (vM e7), (vM e8), (vM e9), ⟨pk a6.out⟩, ⟨pk b3.out⟩, ⟨pk b5.out⟩, ⟨pP c6.out⟩, ⟨pB HB.out⟩⟩
  case rest => as_aux_lemma =>
   clear E1
   try clear c7
   try clear q5
   try clear q6
   try clear q7
   try clear q8
   try clear q9
   try clear r0
   try clear r1
   try clear r2
   obtain ⟨kq, r7, rfl, HA, k6, a4, a5, a7, a8, a9, b0, b1, b2, a6, b3, b5, c6, HB⟩ := hcut
   cases kq with
   | zero => exact absurd HA.out (by simp [Fb.j0])
   | succ w2 =>
    have H := HA.out
    clear HA
    simp only [Fb.j0] at H
    by_cases t9 : r7 = true
    ·
     subst t9
     rw [if_pos rfl] at H
     try dsimp only at H
     exact absurd H (by simp)
    replace t9 := Bool.eq_false_iff.mpr t9
    subst t9
    rw [if_neg (show ¬ (false = true) by decide)] at H
    try dsimp only at H
    replace H := Option.bind_eq_some_iff.mp H
    obtain ⟨⟨o1, o2, m9, o3, n0, CE, X5⟩, x9, H⟩ := H
    try dsimp only at H
    have Af := am x9
    clear x9
    have u1 := am H
    clear H
    have AQ := nn f7
    have AR := nn f8
    have AS := nn f9
    have s3 := y5 a6
    go_upto_region 12 with (first | ((with_reducible refine gC 23 ?_); refine gL 93 Try.func23 #[.agg #[.string e2, .string e3, .slice g0 d3.length g2, .int .i64 d2, .slice g1 d4.length g3], .int .i64 ji9, .int .i64 a3] ?_; (with_reducible refine (Gk.calls w2 e2 e3 (fun k_ => (k_ ≠ b4 ∧ (k_ ≠ b6 ∧ (k_ ≠ b9 ∧ k_ ≠ c8)))) _ _ d3 d2 (fun k_ => (k_ ≠ b4 ∧ (k_ ≠ b6 ∧ (k_ ≠ b9 ∧ k_ ≠ c8)))) _ _ d4 ji9 a3 o1 o2 m9 o3 n0 CE X5 _ ?side1 ?side2 Af.out).mono ?_); (case side1 => exact a4.out); (case side2 => exact a5.out); rintro e Es ⟨El, Em, rfl, g6, g7, hb⟩; refine ⟨_, rfl, ?_⟩; replace a4 := vB a4 hb; replace a5 := vB a5 hb; replace a7 := vB a7 hb; replace a8 := vB a8 hb; replace a9 := vB a9 hb; replace b0 := vB b0 hb; replace b1 := vB b1 hb; replace b2 := vB b2 hb; have j2 := vL (ok' := fun k_ => k_ ≠ b4 ∧ k_ ≠ b6 ∧ k_ ≠ b9 ∧ k_ ≠ c8) HB g6 (fun k_ d8 => ⟨Or.elim d8 (fun a0 => Or.elim a0 (fun a0 => a0.1) (fun a0 => a0.1)) (fB a6), Or.elim d8 (fun a0 => Or.elim a0 (fun a0 => a0.2.1) (fun a0 => a0.2.1)) (fB b3), Or.elim d8 (fun a0 => Or.elim a0 (fun a0 => a0.2.2.1) (fun a0 => a0.2.2.1)) (fB b5), Or.elim d8 (fun a0 => Or.elim a0 (fun a0 => a0.2.2.2) (fun a0 => a0.2.2.2)) (fB c6)⟩); have j3 := vL (ok' := fun k_ => k_ ≠ b4 ∧ k_ ≠ b6 ∧ k_ ≠ b9 ∧ k_ ≠ c8) HB g7 (fun k_ d8 => ⟨Or.elim d8 (fun a0 => Or.elim a0 (fun a0 => a0.1) (fun a0 => a0.1)) (fB a6), Or.elim d8 (fun a0 => Or.elim a0 (fun a0 => a0.2.1) (fun a0 => a0.2.1)) (fB b3), Or.elim d8 (fun a0 => Or.elim a0 (fun a0 => a0.2.2.1) (fun a0 => a0.2.2.1)) (fB b5), Or.elim d8 (fun a0 => Or.elim a0 (fun a0 => a0.2.2.2) (fun a0 => a0.2.2.2)) (fB c6)⟩); replace a6 := kB a6 hb; replace b3 := kB b3 hb; replace b5 := kB b5 hb; replace c6 := kB c6 hb; replace HB := bS HB hb; (try clear hb); (try clear g6); (try clear g7)) | ((with_reducible refine gD 15 ?_); refine bz 15 #[.string (⟨#[]⟩ : ByteArray), .string (⟨#[]⟩ : ByteArray), .slice none 0 0, .int .i64 0, .slice none 0 0] 27 HB ?_; clear HB; intro c9 hg Et hb d1 Do HB; replace a4 := vE a4 hg hb; replace a5 := vE a5 hg hb; replace a7 := vE a7 hg hb; replace a8 := vE a8 hg hb; replace a9 := vE a9 hg hb; replace b0 := vE b0 hg hb; replace b1 := vE b1 hg hb; replace b2 := vE b2 hg hb; replace j2 := vE j2 hg hb; replace j3 := vE j3 hg hb; have g5 := nL hg a6; have n7 := nG hg a6; replace a6 := kB a6 hb; have I4 := nL hg b3; have n8 := nG hg b3; replace b3 := kB b3 hb; have I5 := nL hg b5; have n9 := nG hg b5; replace b5 := kB b5 hb; have I6 := nL hg c6; have o0 := nG hg c6; replace c6 := kB c6 hb; clear hb hg; have AT := nn n7; have AU := nn n8; have AV := nn n9; have AW := nn o0; have s4 := y5 d1; obtain ⟨k7, k9, N6⟩ := Kd.V_slice j2.out; subst N6; obtain ⟨k8, l1, N7⟩ := Kd.V_slice j3.out; subst N7))
    (try simp only [Act.put, List.setIfInBounds_toArray, List.set_cons_zero, List.set_cons_succ])
    go_cut [108] (fun CL wc => ∃ (kq : Nat) (n6 : Bool), CL = .bool n6 ∧ q0f (Fb.j1 kq ji9 a3 n6 e2 e3 d3 d2 d4 = some r) ∧ q0f (kq ≤ w2) ∧ q0f (Kd.V k49 49 wc w.heap.size (fun k_ => k_ ≠ b4 ∧ k_ ≠ b6 ∧ k_ ≠ b9 ∧ k_ ≠ c8 ∧ k_ ≠ c9) (.slice g0 d3.length g2) d3) ∧ q0f (Kd.V k51 51 wc w.heap.size (fun k_ => k_ ≠ b4 ∧ k_ ≠ b6 ∧ k_ ≠ b9 ∧ k_ ≠ c8 ∧ k_ ≠ c9) (.slice g1 d4.length g3) d4) ∧ q0f (Kd.V k49 49 wc w.heap.size (fun k_ => k_ ≠ b4 ∧ k_ ≠ b6 ∧ k_ ≠ b9 ∧ k_ ≠ c8 ∧ k_ ≠ c9) (.slice l2 g8.length l6) g8) ∧ q0f (Kd.V k51 51 wc w.heap.size (fun k_ => k_ ≠ b4 ∧ k_ ≠ b6 ∧ k_ ≠ b9 ∧ k_ ≠ c8 ∧ k_ ≠ c9) (.slice l3 g9.length l7) g9) ∧ q0f (Kd.V k49 49 wc w.heap.size (fun k_ => k_ ≠ b4 ∧ k_ ≠ b6 ∧ k_ ≠ b9 ∧ k_ ≠ c8 ∧ k_ ≠ c9) (.slice n1 h6.length n4) h6) ∧ q0f (Kd.V k51 51 wc w.heap.size (fun k_ => k_ ≠ b4 ∧ k_ ≠ b6 ∧ k_ ≠ b9 ∧ k_ ≠ c8 ∧ k_ ≠ c9) (.slice n2 h7.length n5) h7) ∧ q0f (Kd.V k49 49 wc w.heap.size (fun k_ => k_ ≠ b4 ∧ k_ ≠ b6 ∧ k_ ≠ b9 ∧ k_ ≠ c8 ∧ k_ ≠ c9) (.slice l4 h8.length l8) h8) ∧ q0f (Kd.V k51 51 wc w.heap.size (fun k_ => k_ ≠ b4 ∧ k_ ≠ b6 ∧ k_ ≠ b9 ∧ k_ ≠ c8 ∧ k_ ≠ c9) (.slice l5 h9.length l9) h9) ∧ q0f (Kd.V k49 49 wc w.heap.size (fun k_ => k_ ≠ b4 ∧ k_ ≠ b6 ∧ k_ ≠ b9 ∧ k_ ≠ c8 ∧ k_ ≠ c9) (.slice k7 m9.length k9) m9) ∧ q0f (Kd.V k51 51 wc w.heap.size (fun k_ => k_ ≠ b4 ∧ k_ ≠ b6 ∧ k_ ≠ b9 ∧ k_ ≠ c8 ∧ k_ ≠ c9) (.slice k8 n0.length l1) n0) ∧ q0f (wc.heap[b4]? = some (.cells #[.string e2, .string e3, (.slice g0 d3.length g2), .int .i64 d2, (.slice g1 d4.length g3)] 27 (0, 0))) ∧ q0f (wc.heap[b6]? = some (.cells #[.string j6, .string j7, (.slice l2 g8.length l6), .int .i64 j8, (.slice l3 g9.length l7)] 27 (0, 0))) ∧ q0f (wc.heap[b9]? = some (.cells #[.string j9, .string k0, (.slice n1 h6.length n4), .int .i64 k1, (.slice n2 h7.length n5)] 27 (0, 0))) ∧ q0f (wc.heap[c8]? = some (.cells #[.string k2, .string k4, (.slice l4 h8.length l8), .int .i64 k5, (.slice l5 h9.length l9)] 27 (0, 0))) ∧ q0f (wc.heap[c9]? = some (.cells #[.string o1, .string o2, (.slice k7 m9.length k9), .int .i64 o3, (.slice k8 n0.length l1)] 27 (0, 0))) ∧ q0f (Below w.heap.size w wc))
    case first =>
     have H := u1.out
     clear u1
     by_cases u2 : X5 = 0
     ·
      rw [if_pos u2] at H
      obtain ⟨p1, E2⟩ := qt u2
      clear u2
      (first | rw [p1] | (simp only [q2r, q2u]; rw [p1]) | skip)
      replace H := Option.bind_eq_some_iff.mp H
      obtain ⟨CF, y0, H⟩ := H
      try dsimp only at H
      have I9 := am y0
      clear y0
      by_cases v1 : CF = true
      ·
       subst v1
       rw [if_pos rfl] at H
       try dsimp only at H
       have H' := am H
       clear H
       have AX := nn n7
       have AY := nn n8
       have AZ := nn n9
       have Ba := nn o0
       have R4 := y5 d1
       go_wp2_with (first | (go_at_call 15; (with_reducible refine (Fa.calls w2 o1 o2 _ _ m9 o3 _ _ n0 true _ ?side1 ?side2 ?side3 ?side4 I9.out).mono ?_); (case side1 => exact (Kd.V_reads' (pV j2.out)).2.2); (case side2 => exact (Kd.V_reads' j2.out).2.1); (case side3 => exact (Kd.V_reads' (pV j3.out)).2.2); (case side4 => exact (Kd.V_reads' j3.out).2.1); rintro e Eu ⟨rfl, hb⟩; replace a4 := vB a4 hb; replace a5 := vB a5 hb; replace a7 := vB a7 hb; replace a8 := vB a8 hb; replace a9 := vB a9 hb; replace b0 := vB b0 hb; replace b1 := vB b1 hb; replace b2 := vB b2 hb; replace j2 := vB j2 hb; replace j3 := vB j3 hb; replace a6 := kB a6 hb; replace b3 := kB b3 hb; replace b5 := kB b5 hb; replace c6 := kB c6 hb; replace d1 := am (q0b (g := c9) (o := .cells #[.string o1, .string o2, .slice k7 m9.length k9, .int .i64 o3, .slice k8 n0.length l1] 27 (0, 0)) (pP d1.out) hb); replace HB := bS HB hb; (try clear hb); have Bb := nn f7; have Bc := nn f8; have Bd := nn f9; have R5 := y5 a6))
       go_meet
       case rel => exact ⟨_, ((d2 != 0)), el, H', ⟨by have := k6.out; first | omega | exact Nat.le_refl _⟩, (vM a4), (vM a5), (vM a7), (vM a8), (vM a9), (vM b0), (vM b1), (vM b2), (vM j2), (vM j3), ⟨pk a6.out⟩, ⟨pk b3.out⟩, ⟨pk b5.out⟩, ⟨pk c6.out⟩, ⟨pk d1.out⟩, ⟨pB HB.out⟩⟩
      replace v1 := Bool.eq_false_iff.mpr v1
      subst v1
      rw [if_neg (show ¬ (false = true) by decide)] at H
      try dsimp only at H
      have H' := am H
      clear H
      have Be := nn n7
      have Bf := nn n8
      have Bg := nn n9
      have Bh := nn o0
      have R6 := y5 d1
      go_wp2_with (first | (go_at_call 15; (with_reducible refine (Fa.calls w2 o1 o2 _ _ m9 o3 _ _ n0 false _ ?side1 ?side2 ?side3 ?side4 I9.out).mono ?_); (case side1 => exact (Kd.V_reads' (pV j2.out)).2.2); (case side2 => exact (Kd.V_reads' j2.out).2.1); (case side3 => exact (Kd.V_reads' (pV j3.out)).2.2); (case side4 => exact (Kd.V_reads' j3.out).2.1); rintro e Ev ⟨rfl, hb⟩; replace a4 := vB a4 hb; replace a5 := vB a5 hb; replace a7 := vB a7 hb; replace a8 := vB a8 hb; replace a9 := vB a9 hb; replace b0 := vB b0 hb; replace b1 := vB b1 hb; replace b2 := vB b2 hb; replace j2 := vB j2 hb; replace j3 := vB j3 hb; replace a6 := kB a6 hb; replace b3 := kB b3 hb; replace b5 := kB b5 hb; replace c6 := kB c6 hb; replace d1 := am (q0b (g := c9) (o := .cells #[.string o1, .string o2, .slice k7 m9.length k9, .int .i64 o3, .slice k8 n0.length l1] 27 (0, 0)) (pP d1.out) hb); replace HB := bS HB hb; (try clear hb)))
      go_meet
      case rel => exact ⟨_, (true), el, H', ⟨by have := k6.out; first | omega | exact Nat.le_refl _⟩, (vM a4), (vM a5), (vM a7), (vM a8), (vM a9), (vM b0), (vM b1), (vM b2), (vM j2), (vM j3), ⟨pk a6.out⟩, ⟨pk b3.out⟩, ⟨pk b5.out⟩, ⟨pk c6.out⟩, ⟨pk d1.out⟩, ⟨pB HB.out⟩⟩
     rw [if_neg u2] at H
     obtain ⟨p1, E2⟩ := qf u2
     (first | rw [p1] | (simp only [q2r, q2u]; rw [p1]) | skip)
     have H' := am H
     clear H
     go_wp2
     go_meet
     case rel => exact ⟨_, (false), el, H', ⟨by have := k6.out; first | omega | exact Nat.le_refl _⟩, (vM a4), (vM a5), (vM a7), (vM a8), (vM a9), (vM b0), (vM b1), (vM b2), (vM j2), (vM j3), ⟨pk a6.out⟩, ⟨pk b3.out⟩, ⟨pk b5.out⟩, ⟨pk c6.out⟩, ⟨pP d1.out⟩, ⟨pB HB.out⟩⟩
    case rest => as_aux_lemma =>
     clear u1
     try clear c7
     try clear t9
     try clear s3
     try clear s4
     try clear q5
     try clear q6
     try clear q7
     try clear q8
     try clear q9
     try clear r0
     try clear r1
     try clear r2
     obtain ⟨kq, n6, rfl, HA, i0, a4, a5, a7, a8, a9, b0, b1, b2, b7, b8, a6, b3, b5, c6, d1, HB⟩ := hcut
     cases kq with
     | zero => exact absurd HA.out (by simp [Fb.j1])
     | succ E0 =>
      have H := HA.out
      clear HA
      simp only [Fb.j1] at H
      by_cases u3 : n6 = true
      ·
       subst u3
       rw [if_pos rfl] at H
       try dsimp only at H
       exact absurd H (by simp)
      replace u3 := Bool.eq_false_iff.mpr u3
      subst u3
      rw [if_neg (show ¬ (false = true) by decide)] at H
      try dsimp only at H
      have H' := am H
      clear H
      go_wp2
      go_loopg [109] E0 (fun kq CM w' => ∃ (g4 : Int), CM = .int .i64 g4 ∧ q0f (Fb.l0 kq ji9 a3 g4 e2 e3 d3 d2 d4 = some r) ∧ q0f (kq ≤ E0) ∧ q0f (Kd.V k49 49 w' w.heap.size (fun k_ => k_ ≠ b4 ∧ k_ ≠ b6 ∧ k_ ≠ b9 ∧ k_ ≠ c8 ∧ k_ ≠ c9) (.slice g0 d3.length g2) d3) ∧ q0f (Kd.V k51 51 w' w.heap.size (fun k_ => k_ ≠ b4 ∧ k_ ≠ b6 ∧ k_ ≠ b9 ∧ k_ ≠ c8 ∧ k_ ≠ c9) (.slice g1 d4.length g3) d4) ∧ q0f (Kd.V k49 49 w' w.heap.size (fun k_ => k_ ≠ b4 ∧ k_ ≠ b6 ∧ k_ ≠ b9 ∧ k_ ≠ c8 ∧ k_ ≠ c9) (.slice l2 g8.length l6) g8) ∧ q0f (Kd.V k51 51 w' w.heap.size (fun k_ => k_ ≠ b4 ∧ k_ ≠ b6 ∧ k_ ≠ b9 ∧ k_ ≠ c8 ∧ k_ ≠ c9) (.slice l3 g9.length l7) g9) ∧ q0f (Kd.V k49 49 w' w.heap.size (fun k_ => k_ ≠ b4 ∧ k_ ≠ b6 ∧ k_ ≠ b9 ∧ k_ ≠ c8 ∧ k_ ≠ c9) (.slice n1 h6.length n4) h6) ∧ q0f (Kd.V k51 51 w' w.heap.size (fun k_ => k_ ≠ b4 ∧ k_ ≠ b6 ∧ k_ ≠ b9 ∧ k_ ≠ c8 ∧ k_ ≠ c9) (.slice n2 h7.length n5) h7) ∧ q0f (Kd.V k49 49 w' w.heap.size (fun k_ => k_ ≠ b4 ∧ k_ ≠ b6 ∧ k_ ≠ b9 ∧ k_ ≠ c8 ∧ k_ ≠ c9) (.slice l4 h8.length l8) h8) ∧ q0f (Kd.V k51 51 w' w.heap.size (fun k_ => k_ ≠ b4 ∧ k_ ≠ b6 ∧ k_ ≠ b9 ∧ k_ ≠ c8 ∧ k_ ≠ c9) (.slice l5 h9.length l9) h9) ∧ q0f (Kd.V k49 49 w' w.heap.size (fun k_ => k_ ≠ b4 ∧ k_ ≠ b6 ∧ k_ ≠ b9 ∧ k_ ≠ c8 ∧ k_ ≠ c9) (.slice k7 m9.length k9) m9) ∧ q0f (Kd.V k51 51 w' w.heap.size (fun k_ => k_ ≠ b4 ∧ k_ ≠ b6 ∧ k_ ≠ b9 ∧ k_ ≠ c8 ∧ k_ ≠ c9) (.slice k8 n0.length l1) n0) ∧ q0f (w'.heap[b4]? = some (.cells #[.string e2, .string e3, (.slice g0 d3.length g2), .int .i64 d2, (.slice g1 d4.length g3)] 27 (0, 0))) ∧ q0f (w'.heap[b6]? = some (.cells #[.string j6, .string j7, (.slice l2 g8.length l6), .int .i64 j8, (.slice l3 g9.length l7)] 27 (0, 0))) ∧ q0f (w'.heap[b9]? = some (.cells #[.string j9, .string k0, (.slice n1 h6.length n4), .int .i64 k1, (.slice n2 h7.length n5)] 27 (0, 0))) ∧ q0f (w'.heap[c8]? = some (.cells #[.string k2, .string k4, (.slice l4 h8.length l8), .int .i64 k5, (.slice l5 h9.length l9)] 27 (0, 0))) ∧ q0f (w'.heap[c9]? = some (.cells #[.string o1, .string o2, (.slice k7 m9.length k9), .int .i64 o3, (.slice k8 n0.length l1)] 27 (0, 0))) ∧ q0f (Below w.heap.size w w'))
      case atStart => exact ⟨(0), el, H', ⟨Nat.le_refl _⟩, ⟨(pV a4.out)⟩, ⟨(pV a5.out)⟩, ⟨(pV a7.out)⟩, ⟨(pV a8.out)⟩, ⟨(pV a9.out)⟩, ⟨(pV b0.out)⟩, ⟨(pV b1.out)⟩, ⟨(pV b2.out)⟩, ⟨(pV b7.out)⟩, ⟨(pV b8.out)⟩, ⟨pk a6.out⟩, ⟨pk b3.out⟩, ⟨pk b5.out⟩, ⟨pk c6.out⟩, ⟨pk d1.out⟩, ⟨pB HB.out⟩⟩
      case round => as_aux_lemma =>
       clear H'
       try clear c7
       try clear t9
       try clear u3
       try clear s3
       try clear s4
       try clear q5
       try clear q6
       try clear q7
       try clear q8
       try clear q9
       try clear r0
       try clear r1
       try clear r2
       try clear a6; try clear b3; try clear b5; try clear c6; try clear d1; try clear HB
       obtain ⟨g4, rfl, HA, s5, a4, a5, a7, a8, a9, b0, b1, b2, b7, b8, a6, b3, b5, c6, d1, HB⟩ := hrel
       cases gk with
       | zero => exact absurd HA.out (by simp [Fb.l0])
       | succ k3 =>
        have H := HA.out
        clear HA
        simp only [Fb.l0] at H
        by_cases u0 : g4 < 4
        ·
         rw [if_pos u0] at H
         have E3 := decide_eq_true u0
         clear u0
         replace H := Option.bind_eq_some_iff.mp H
         obtain ⟨⟨i5, i6, i7, i8, i9, r6⟩, y6, H⟩ := H
         try dsimp only at H
         have r8 := am y6
         clear y6
         by_cases u4 : g4 = 1
         ·
          rw [if_pos u4] at H
          obtain ⟨E4, E5⟩ := qt u4
          clear u4
          replace H := Option.bind_eq_some_iff.mp H
          obtain ⟨⟨w3, w4, w5, w6, w7, H8⟩, y7, H⟩ := H
          try dsimp only at H
          have K1 := am y7
          clear y7
          by_cases u5 : H8 = 0
          ·
           rw [if_pos u5] at H
           obtain ⟨E6, E7⟩ := qt u5
           clear u5
           replace H := Option.bind_eq_some_iff.mp H
           obtain ⟨CH, y8, H⟩ := H
           try dsimp only at H
           have Ag := am y8
           clear y8
           by_cases v2 : CH = true
           ·
            subst v2
            rw [if_pos rfl] at H
            try dsimp only at H
            by_cases v3 : d2 = 0
            ·
             rw [if_pos v3] at H
             obtain ⟨An, Ao⟩ := qt v3
             clear v3
             have H' := am H
             clear H
             have Bi := nn f7
             have Bj := nn f8
             have Bk := nn f9
             have Bl := nn g5
             have R7 := y5 a6
             go_wp2_with (first | ((with_reducible refine gC 19 ?_); refine gL 116 Try.func19 #[.agg #[.string e2, .string e3, .slice g0 d3.length g2, .int .i64 d2, .slice g1 d4.length g3], .int .i64 ji9, .int .i64 a3] ?_; (with_reducible refine (F9.calls k3 e2 e3 (fun k_ => (k_ ≠ b4 ∧ (k_ ≠ b6 ∧ (k_ ≠ b9 ∧ (k_ ≠ c8 ∧ k_ ≠ c9))))) _ _ d3 d2 (fun k_ => (k_ ≠ b4 ∧ (k_ ≠ b6 ∧ (k_ ≠ b9 ∧ (k_ ≠ c8 ∧ k_ ≠ c9))))) _ _ d4 ji9 a3 i5 i6 i7 i8 i9 r6 _ ?side1 ?side2 r8.out).mono ?_); (case side1 => exact a4.out); (case side2 => exact a5.out); rintro e Ew ⟨s6, s7, rfl, g6, g7, hb⟩; refine ⟨_, rfl, ?_⟩; replace a4 := vB a4 hb; replace a5 := vB a5 hb; replace a7 := vB a7 hb; replace a8 := vB a8 hb; replace a9 := vB a9 hb; replace b0 := vB b0 hb; replace b1 := vB b1 hb; replace b2 := vB b2 hb; replace b7 := vB b7 hb; replace b8 := vB b8 hb; have d6 := vL (ok' := fun k_ => k_ ≠ b4 ∧ k_ ≠ b6 ∧ k_ ≠ b9 ∧ k_ ≠ c8 ∧ k_ ≠ c9) HB g6 (fun k_ d8 => ⟨Or.elim d8 (fun a0 => Or.elim a0 (fun a0 => a0.1) (fun a0 => a0.1)) (fB a6), Or.elim d8 (fun a0 => Or.elim a0 (fun a0 => a0.2.1) (fun a0 => a0.2.1)) (fB b3), Or.elim d8 (fun a0 => Or.elim a0 (fun a0 => a0.2.2.1) (fun a0 => a0.2.2.1)) (fB b5), Or.elim d8 (fun a0 => Or.elim a0 (fun a0 => a0.2.2.2.1) (fun a0 => a0.2.2.2.1)) (fB c6), Or.elim d8 (fun a0 => Or.elim a0 (fun a0 => a0.2.2.2.2) (fun a0 => a0.2.2.2.2)) (fB d1)⟩); have d7 := vL (ok' := fun k_ => k_ ≠ b4 ∧ k_ ≠ b6 ∧ k_ ≠ b9 ∧ k_ ≠ c8 ∧ k_ ≠ c9) HB g7 (fun k_ d8 => ⟨Or.elim d8 (fun a0 => Or.elim a0 (fun a0 => a0.1) (fun a0 => a0.1)) (fB a6), Or.elim d8 (fun a0 => Or.elim a0 (fun a0 => a0.2.1) (fun a0 => a0.2.1)) (fB b3), Or.elim d8 (fun a0 => Or.elim a0 (fun a0 => a0.2.2.1) (fun a0 => a0.2.2.1)) (fB b5), Or.elim d8 (fun a0 => Or.elim a0 (fun a0 => a0.2.2.2.1) (fun a0 => a0.2.2.2.1)) (fB c6), Or.elim d8 (fun a0 => Or.elim a0 (fun a0 => a0.2.2.2.2) (fun a0 => a0.2.2.2.2)) (fB d1)⟩); replace a6 := kB a6 hb; replace b3 := kB b3 hb; replace b5 := kB b5 hb; replace c6 := kB c6 hb; replace d1 := kB d1 hb; replace HB := bS HB hb; (try clear hb); (try clear g6); (try clear g7)) | ((with_reducible refine gD 19 ?_); refine bz 19 #[.string (⟨#[]⟩ : ByteArray), .string (⟨#[]⟩ : ByteArray), .slice none 0 0, .int .i64 0, .slice none 0 0] 27 HB ?_; clear HB; intro d0 hg CV hb d5 o4 HB; replace a4 := vE a4 hg hb; replace a5 := vE a5 hg hb; replace a7 := vE a7 hg hb; replace a8 := vE a8 hg hb; replace a9 := vE a9 hg hb; replace b0 := vE b0 hg hb; replace b1 := vE b1 hg hb; replace b2 := vE b2 hg hb; replace b7 := vE b7 hg hb; replace b8 := vE b8 hg hb; replace d6 := vE d6 hg hb; replace d7 := vE d7 hg hb; have h0 := nL hg a6; have f1 := nG hg a6; replace a6 := kB a6 hb; have h2 := nL hg b3; have f2 := nG hg b3; replace b3 := kB b3 hb; have h3 := nL hg b5; have f3 := nG hg b5; replace b5 := kB b5 hb; have h4 := nL hg c6; have f4 := nG hg c6; replace c6 := kB c6 hb; have h5 := nL hg d1; have f5 := nG hg d1; replace d1 := kB d1 hb; clear hb hg; have Bm := nn f1; have Bn := nn f2; have Bo := nn f3; have Bp := nn f4; have Bq := nn f5; have R8 := y5 d5; obtain ⟨A2, C2, N8⟩ := Kd.V_slice d6.out; subst N8; obtain ⟨A3, C3, N9⟩ := Kd.V_slice d7.out; subst N9) | ((with_reducible refine q2g (t := 27) (p := 19) rfl ?_); refine q1y (t := 27) (p := 19) (v := ?vo_w181) (w1 := (((((CV.setCell ⟨d0, 0, none⟩ (.string i5)).setCell ⟨d0, 1, none⟩ (.string i6)).setCell ⟨d0, 2, none⟩ (.slice A2 i7.length C2)).setCell ⟨d0, 3, none⟩ (.int .i64 i8)).setCell ⟨d0, 4, none⟩ (.slice A3 i9.length C3))) ?hg ?ho ?hn ?hr ?_; (case ho => rfl); (case hg => rfl); (case hn => rfl); (case hr => first | (go_simp; done) | (go_simp; rfl)); intro s8 hw; have p4 := vW (ok' := fun k_ => k_ ≠ b4 ∧ k_ ≠ b6 ∧ k_ ≠ b9 ∧ k_ ≠ c8 ∧ k_ ≠ c9 ∧ k_ ≠ d0) hw a4; have p5 := vW (ok' := fun k_ => k_ ≠ b4 ∧ k_ ≠ b6 ∧ k_ ≠ b9 ∧ k_ ≠ c8 ∧ k_ ≠ c9 ∧ k_ ≠ d0) hw a5; have p6 := vW (ok' := fun k_ => k_ ≠ b4 ∧ k_ ≠ b6 ∧ k_ ≠ b9 ∧ k_ ≠ c8 ∧ k_ ≠ c9 ∧ k_ ≠ d0) hw a7; have p7 := vW (ok' := fun k_ => k_ ≠ b4 ∧ k_ ≠ b6 ∧ k_ ≠ b9 ∧ k_ ≠ c8 ∧ k_ ≠ c9 ∧ k_ ≠ d0) hw a8; have p8 := vW (ok' := fun k_ => k_ ≠ b4 ∧ k_ ≠ b6 ∧ k_ ≠ b9 ∧ k_ ≠ c8 ∧ k_ ≠ c9 ∧ k_ ≠ d0) hw a9; have p9 := vW (ok' := fun k_ => k_ ≠ b4 ∧ k_ ≠ b6 ∧ k_ ≠ b9 ∧ k_ ≠ c8 ∧ k_ ≠ c9 ∧ k_ ≠ d0) hw b0; have q0 := vW (ok' := fun k_ => k_ ≠ b4 ∧ k_ ≠ b6 ∧ k_ ≠ b9 ∧ k_ ≠ c8 ∧ k_ ≠ c9 ∧ k_ ≠ d0) hw b1; have q2 := vW (ok' := fun k_ => k_ ≠ b4 ∧ k_ ≠ b6 ∧ k_ ≠ b9 ∧ k_ ≠ c8 ∧ k_ ≠ c9 ∧ k_ ≠ d0) hw b2; have q3 := vW (ok' := fun k_ => k_ ≠ b4 ∧ k_ ≠ b6 ∧ k_ ≠ b9 ∧ k_ ≠ c8 ∧ k_ ≠ c9 ∧ k_ ≠ d0) hw b7; have q4 := vW (ok' := fun k_ => k_ ≠ b4 ∧ k_ ≠ b6 ∧ k_ ≠ b9 ∧ k_ ≠ c8 ∧ k_ ≠ c9 ∧ k_ ≠ d0) hw b8; have m0 := vW (ok' := fun k_ => k_ ≠ b4 ∧ k_ ≠ b6 ∧ k_ ≠ b9 ∧ k_ ≠ c8 ∧ k_ ≠ c9 ∧ k_ ≠ d0) hw d6; have m1 := vW (ok' := fun k_ => k_ ≠ b4 ∧ k_ ≠ b6 ∧ k_ ≠ b9 ∧ k_ ≠ c8 ∧ k_ ≠ c9 ∧ k_ ≠ d0) hw d7; have m2 : q0f (s8.heap[b4]? = some (.cells #[.string e2, .string e3, .slice g0 d3.length g2, .int .i64 d2, .slice g1 d4.length g3] 27 (0, 0))) := ⟨(by rw [hw]; exact (pk a6.out))⟩; have m3 : q0f (s8.heap[b6]? = some (.cells #[.string j6, .string j7, .slice l2 g8.length l6, .int .i64 j8, .slice l3 g9.length l7] 27 (0, 0))) := ⟨(by rw [hw]; exact (pk b3.out))⟩; have m4 : q0f (s8.heap[b9]? = some (.cells #[.string j9, .string k0, .slice n1 h6.length n4, .int .i64 k1, .slice n2 h7.length n5] 27 (0, 0))) := ⟨(by rw [hw]; exact (pk b5.out))⟩; have m5 : q0f (s8.heap[c8]? = some (.cells #[.string k2, .string k4, .slice l4 h8.length l8, .int .i64 k5, .slice l5 h9.length l9] 27 (0, 0))) := ⟨(by rw [hw]; exact (pk c6.out))⟩; have m6 : q0f (s8.heap[c9]? = some (.cells #[.string o1, .string o2, .slice k7 m9.length k9, .int .i64 o3, .slice k8 n0.length l1] 27 (0, 0))) := ⟨(by rw [hw]; exact (pk d1.out))⟩; have m7 : q0f (s8.heap[d0]? = some (.cells #[.string i5, .string i6, .slice A2 i7.length C2, .int .i64 i8, .slice A3 i9.length C3] 27 (0, 0))) := ⟨(by rw [hw]; exact (pP d5.out))⟩; have m8 : q0f (Below w.heap.size w s8) := ⟨(by rw [hw]; exact (pB HB.out))⟩; clear hw a4 a5 a7 a8 a9 b0 b1 b2 b7 b8 d6 d7 a6 b3 b5 c6 d1 d5 HB; have a4 := p4; have a5 := p5; have a7 := p6; have a8 := p7; have a9 := p8; have b0 := p9; have b1 := q0; have b2 := q2; have b7 := q3; have b8 := q4; have d6 := m0; have d7 := m1; have a6 := m2; have b3 := m3; have b5 := m4; have c6 := m5; have d1 := m6; have d5 := m7; have HB := m8; clear p4 p5 p6 p7 p8 p9 q0 q2 q3 q4 m0 m1 m2 m3 m4 m5 m6 m7 m8; have R9 := y5 a6) | ((with_reducible refine gC 20 ?_); refine gL 126 Try.func20 #[.agg #[.string e2, .string e3, .slice g0 d3.length g2, .int .i64 d2, .slice g1 d4.length g3], .int .i64 ji9, .int .i64 a3, .string (⟨#[114]⟩ : ByteArray)] ?_; (with_reducible refine (Gh.calls k3 e2 e3 (fun k_ => (k_ ≠ b4 ∧ (k_ ≠ b6 ∧ (k_ ≠ b9 ∧ (k_ ≠ c8 ∧ (k_ ≠ c9 ∧ k_ ≠ d0)))))) _ _ d3 d2 (fun k_ => (k_ ≠ b4 ∧ (k_ ≠ b6 ∧ (k_ ≠ b9 ∧ (k_ ≠ c8 ∧ (k_ ≠ c9 ∧ k_ ≠ d0)))))) _ _ d4 ji9 a3 (⟨#[114]⟩ : ByteArray) w3 w4 w5 w6 w7 H8 _ ?side1 ?side2 K1.out).mono ?_); (case side1 => exact a4.out); (case side2 => exact a5.out); rintro e Ex ⟨CP, CQ, rfl, g6, g7, hb⟩; refine ⟨_, rfl, ?_⟩; replace a4 := vB a4 hb; replace a5 := vB a5 hb; replace a7 := vB a7 hb; replace a8 := vB a8 hb; replace a9 := vB a9 hb; replace b0 := vB b0 hb; replace b1 := vB b1 hb; replace b2 := vB b2 hb; replace b7 := vB b7 hb; replace b8 := vB b8 hb; replace d6 := vB d6 hb; replace d7 := vB d7 hb; have o5 := vL (ok' := fun k_ => k_ ≠ b4 ∧ k_ ≠ b6 ∧ k_ ≠ b9 ∧ k_ ≠ c8 ∧ k_ ≠ c9 ∧ k_ ≠ d0) HB g6 (fun k_ d8 => ⟨Or.elim d8 (fun a0 => Or.elim a0 (fun a0 => a0.1) (fun a0 => a0.1)) (fB a6), Or.elim d8 (fun a0 => Or.elim a0 (fun a0 => a0.2.1) (fun a0 => a0.2.1)) (fB b3), Or.elim d8 (fun a0 => Or.elim a0 (fun a0 => a0.2.2.1) (fun a0 => a0.2.2.1)) (fB b5), Or.elim d8 (fun a0 => Or.elim a0 (fun a0 => a0.2.2.2.1) (fun a0 => a0.2.2.2.1)) (fB c6), Or.elim d8 (fun a0 => Or.elim a0 (fun a0 => a0.2.2.2.2.1) (fun a0 => a0.2.2.2.2.1)) (fB d1), Or.elim d8 (fun a0 => Or.elim a0 (fun a0 => a0.2.2.2.2.2) (fun a0 => a0.2.2.2.2.2)) (fB d5)⟩); have o6 := vL (ok' := fun k_ => k_ ≠ b4 ∧ k_ ≠ b6 ∧ k_ ≠ b9 ∧ k_ ≠ c8 ∧ k_ ≠ c9 ∧ k_ ≠ d0) HB g7 (fun k_ d8 => ⟨Or.elim d8 (fun a0 => Or.elim a0 (fun a0 => a0.1) (fun a0 => a0.1)) (fB a6), Or.elim d8 (fun a0 => Or.elim a0 (fun a0 => a0.2.1) (fun a0 => a0.2.1)) (fB b3), Or.elim d8 (fun a0 => Or.elim a0 (fun a0 => a0.2.2.1) (fun a0 => a0.2.2.1)) (fB b5), Or.elim d8 (fun a0 => Or.elim a0 (fun a0 => a0.2.2.2.1) (fun a0 => a0.2.2.2.1)) (fB c6), Or.elim d8 (fun a0 => Or.elim a0 (fun a0 => a0.2.2.2.2.1) (fun a0 => a0.2.2.2.2.1)) (fB d1), Or.elim d8 (fun a0 => Or.elim a0 (fun a0 => a0.2.2.2.2.2) (fun a0 => a0.2.2.2.2.2)) (fB d5)⟩); replace a6 := kB a6 hb; replace b3 := kB b3 hb; replace b5 := kB b5 hb; replace c6 := kB c6 hb; replace d1 := kB d1 hb; replace d5 := kB d5 hb; replace HB := bS HB hb; (try clear hb); (try clear g6); (try clear g7); have S0 := y5 d5; obtain ⟨K9, M8, O0⟩ := Kd.V_slice o5.out; subst O0; obtain ⟨L0, M9, O1⟩ := Kd.V_slice o6.out; subst O1) | (go_at_call 15; (with_reducible refine (Fa.calls k3 w3 w4 _ _ w5 w6 _ _ w7 true _ ?side1 ?side2 ?side3 ?side4 Ag.out).mono ?_); (case side1 => exact (Kd.V_reads' (pV o5.out)).2.2); (case side2 => exact (Kd.V_reads' o5.out).2.1); (case side3 => exact (Kd.V_reads' (pV o6.out)).2.2); (case side4 => exact (Kd.V_reads' o6.out).2.1); rintro e Ey ⟨rfl, hb⟩; replace a4 := vB a4 hb; replace a5 := vB a5 hb; replace a7 := vB a7 hb; replace a8 := vB a8 hb; replace a9 := vB a9 hb; replace b0 := vB b0 hb; replace b1 := vB b1 hb; replace b2 := vB b2 hb; replace b7 := vB b7 hb; replace b8 := vB b8 hb; replace d6 := vB d6 hb; replace d7 := vB d7 hb; replace o5 := vB o5 hb; replace o6 := vB o6 hb; replace a6 := kB a6 hb; replace b3 := kB b3 hb; replace b5 := kB b5 hb; replace c6 := kB c6 hb; replace d1 := kB d1 hb; replace d5 := am (q0b (g := d0) (o := .cells #[.string w3, .string w4, .slice K9 w5.length M8, .int .i64 w6, .slice L0 w7.length M9] 27 (0, 0)) (pP d5.out) hb); replace HB := bS HB hb; (try clear hb); have S1 := y5 a6))
             go_roundg k3
             case measure => have := k6.out; have := i0.out; have := s5.out; omega
             case rel => exact ⟨(wrap64 (g4 + 1)), el, H', ⟨by have := k6.out; have := i0.out; have := s5.out; omega⟩, (vM a4), (vM a5), (vM a7), (vM a8), (vM a9), (vM b0), (vM b1), (vM b2), (vM b7), (vM b8), ⟨pk a6.out⟩, ⟨pk b3.out⟩, ⟨pk b5.out⟩, ⟨pk c6.out⟩, ⟨pk d1.out⟩, ⟨pB HB.out⟩⟩
            rw [if_neg v3] at H
            exact absurd H (by simp)
           replace v2 := Bool.eq_false_iff.mpr v2
           subst v2
           rw [if_neg (show ¬ (false = true) by decide)] at H
           try dsimp only at H
           exact absurd H (by simp)
          rw [if_neg u5] at H
          obtain ⟨E6, E7⟩ := qf u5
          have H' := am H
          clear H
          have Br := nn f7
          have Bs := nn f8
          have Bt := nn f9
          have Bu := nn g5
          have S3 := y5 a6
          go_wp2_with (first | ((with_reducible refine gC 19 ?_); refine gL 116 Try.func19 #[.agg #[.string e2, .string e3, .slice g0 d3.length g2, .int .i64 d2, .slice g1 d4.length g3], .int .i64 ji9, .int .i64 a3] ?_; (with_reducible refine (F9.calls k3 e2 e3 (fun k_ => (k_ ≠ b4 ∧ (k_ ≠ b6 ∧ (k_ ≠ b9 ∧ (k_ ≠ c8 ∧ k_ ≠ c9))))) _ _ d3 d2 (fun k_ => (k_ ≠ b4 ∧ (k_ ≠ b6 ∧ (k_ ≠ b9 ∧ (k_ ≠ c8 ∧ k_ ≠ c9))))) _ _ d4 ji9 a3 i5 i6 i7 i8 i9 r6 _ ?side1 ?side2 r8.out).mono ?_); (case side1 => exact a4.out); (case side2 => exact a5.out); rintro e Ez ⟨s6, s7, rfl, g6, g7, hb⟩; refine ⟨_, rfl, ?_⟩; replace a4 := vB a4 hb; replace a5 := vB a5 hb; replace a7 := vB a7 hb; replace a8 := vB a8 hb; replace a9 := vB a9 hb; replace b0 := vB b0 hb; replace b1 := vB b1 hb; replace b2 := vB b2 hb; replace b7 := vB b7 hb; replace b8 := vB b8 hb; have d6 := vL (ok' := fun k_ => k_ ≠ b4 ∧ k_ ≠ b6 ∧ k_ ≠ b9 ∧ k_ ≠ c8 ∧ k_ ≠ c9) HB g6 (fun k_ d8 => ⟨Or.elim d8 (fun a0 => Or.elim a0 (fun a0 => a0.1) (fun a0 => a0.1)) (fB a6), Or.elim d8 (fun a0 => Or.elim a0 (fun a0 => a0.2.1) (fun a0 => a0.2.1)) (fB b3), Or.elim d8 (fun a0 => Or.elim a0 (fun a0 => a0.2.2.1) (fun a0 => a0.2.2.1)) (fB b5), Or.elim d8 (fun a0 => Or.elim a0 (fun a0 => a0.2.2.2.1) (fun a0 => a0.2.2.2.1)) (fB c6), Or.elim d8 (fun a0 => Or.elim a0 (fun a0 => a0.2.2.2.2) (fun a0 => a0.2.2.2.2)) (fB d1)⟩); have d7 := vL (ok' := fun k_ => k_ ≠ b4 ∧ k_ ≠ b6 ∧ k_ ≠ b9 ∧ k_ ≠ c8 ∧ k_ ≠ c9) HB g7 (fun k_ d8 => ⟨Or.elim d8 (fun a0 => Or.elim a0 (fun a0 => a0.1) (fun a0 => a0.1)) (fB a6), Or.elim d8 (fun a0 => Or.elim a0 (fun a0 => a0.2.1) (fun a0 => a0.2.1)) (fB b3), Or.elim d8 (fun a0 => Or.elim a0 (fun a0 => a0.2.2.1) (fun a0 => a0.2.2.1)) (fB b5), Or.elim d8 (fun a0 => Or.elim a0 (fun a0 => a0.2.2.2.1) (fun a0 => a0.2.2.2.1)) (fB c6), Or.elim d8 (fun a0 => Or.elim a0 (fun a0 => a0.2.2.2.2) (fun a0 => a0.2.2.2.2)) (fB d1)⟩); replace a6 := kB a6 hb; replace b3 := kB b3 hb; replace b5 := kB b5 hb; replace c6 := kB c6 hb; replace d1 := kB d1 hb; replace HB := bS HB hb; (try clear hb); (try clear g6); (try clear g7)) | ((with_reducible refine gD 19 ?_); refine bz 19 #[.string (⟨#[]⟩ : ByteArray), .string (⟨#[]⟩ : ByteArray), .slice none 0 0, .int .i64 0, .slice none 0 0] 27 HB ?_; clear HB; intro d0 hg CW hb d5 o4 HB; replace a4 := vE a4 hg hb; replace a5 := vE a5 hg hb; replace a7 := vE a7 hg hb; replace a8 := vE a8 hg hb; replace a9 := vE a9 hg hb; replace b0 := vE b0 hg hb; replace b1 := vE b1 hg hb; replace b2 := vE b2 hg hb; replace b7 := vE b7 hg hb; replace b8 := vE b8 hg hb; replace d6 := vE d6 hg hb; replace d7 := vE d7 hg hb; have h0 := nL hg a6; have f1 := nG hg a6; replace a6 := kB a6 hb; have h2 := nL hg b3; have f2 := nG hg b3; replace b3 := kB b3 hb; have h3 := nL hg b5; have f3 := nG hg b5; replace b5 := kB b5 hb; have h4 := nL hg c6; have f4 := nG hg c6; replace c6 := kB c6 hb; have h5 := nL hg d1; have f5 := nG hg d1; replace d1 := kB d1 hb; clear hb hg; have Bv := nn f1; have Bw := nn f2; have Bx := nn f3; have By := nn f4; have Bz := nn f5; have S4 := y5 d5; obtain ⟨A4, C4, O2⟩ := Kd.V_slice d6.out; subst O2; obtain ⟨A7, C5, O3⟩ := Kd.V_slice d7.out; subst O3) | ((with_reducible refine q2g (t := 27) (p := 19) rfl ?_); refine q1y (t := 27) (p := 19) (v := ?vo_w204) (w1 := (((((CW.setCell ⟨d0, 0, none⟩ (.string i5)).setCell ⟨d0, 1, none⟩ (.string i6)).setCell ⟨d0, 2, none⟩ (.slice A4 i7.length C4)).setCell ⟨d0, 3, none⟩ (.int .i64 i8)).setCell ⟨d0, 4, none⟩ (.slice A7 i9.length C5))) ?hg ?ho ?hn ?hr ?_; (case ho => rfl); (case hg => rfl); (case hn => rfl); (case hr => first | (go_simp; done) | (go_simp; rfl)); intro s9 hw; have p4 := vW (ok' := fun k_ => k_ ≠ b4 ∧ k_ ≠ b6 ∧ k_ ≠ b9 ∧ k_ ≠ c8 ∧ k_ ≠ c9 ∧ k_ ≠ d0) hw a4; have p5 := vW (ok' := fun k_ => k_ ≠ b4 ∧ k_ ≠ b6 ∧ k_ ≠ b9 ∧ k_ ≠ c8 ∧ k_ ≠ c9 ∧ k_ ≠ d0) hw a5; have p6 := vW (ok' := fun k_ => k_ ≠ b4 ∧ k_ ≠ b6 ∧ k_ ≠ b9 ∧ k_ ≠ c8 ∧ k_ ≠ c9 ∧ k_ ≠ d0) hw a7; have p7 := vW (ok' := fun k_ => k_ ≠ b4 ∧ k_ ≠ b6 ∧ k_ ≠ b9 ∧ k_ ≠ c8 ∧ k_ ≠ c9 ∧ k_ ≠ d0) hw a8; have p8 := vW (ok' := fun k_ => k_ ≠ b4 ∧ k_ ≠ b6 ∧ k_ ≠ b9 ∧ k_ ≠ c8 ∧ k_ ≠ c9 ∧ k_ ≠ d0) hw a9; have p9 := vW (ok' := fun k_ => k_ ≠ b4 ∧ k_ ≠ b6 ∧ k_ ≠ b9 ∧ k_ ≠ c8 ∧ k_ ≠ c9 ∧ k_ ≠ d0) hw b0; have q0 := vW (ok' := fun k_ => k_ ≠ b4 ∧ k_ ≠ b6 ∧ k_ ≠ b9 ∧ k_ ≠ c8 ∧ k_ ≠ c9 ∧ k_ ≠ d0) hw b1; have q2 := vW (ok' := fun k_ => k_ ≠ b4 ∧ k_ ≠ b6 ∧ k_ ≠ b9 ∧ k_ ≠ c8 ∧ k_ ≠ c9 ∧ k_ ≠ d0) hw b2; have q3 := vW (ok' := fun k_ => k_ ≠ b4 ∧ k_ ≠ b6 ∧ k_ ≠ b9 ∧ k_ ≠ c8 ∧ k_ ≠ c9 ∧ k_ ≠ d0) hw b7; have q4 := vW (ok' := fun k_ => k_ ≠ b4 ∧ k_ ≠ b6 ∧ k_ ≠ b9 ∧ k_ ≠ c8 ∧ k_ ≠ c9 ∧ k_ ≠ d0) hw b8; have m0 := vW (ok' := fun k_ => k_ ≠ b4 ∧ k_ ≠ b6 ∧ k_ ≠ b9 ∧ k_ ≠ c8 ∧ k_ ≠ c9 ∧ k_ ≠ d0) hw d6; have m1 := vW (ok' := fun k_ => k_ ≠ b4 ∧ k_ ≠ b6 ∧ k_ ≠ b9 ∧ k_ ≠ c8 ∧ k_ ≠ c9 ∧ k_ ≠ d0) hw d7; have m2 : q0f (s9.heap[b4]? = some (.cells #[.string e2, .string e3, .slice g0 d3.length g2, .int .i64 d2, .slice g1 d4.length g3] 27 (0, 0))) := ⟨(by rw [hw]; exact (pk a6.out))⟩; have m3 : q0f (s9.heap[b6]? = some (.cells #[.string j6, .string j7, .slice l2 g8.length l6, .int .i64 j8, .slice l3 g9.length l7] 27 (0, 0))) := ⟨(by rw [hw]; exact (pk b3.out))⟩; have m4 : q0f (s9.heap[b9]? = some (.cells #[.string j9, .string k0, .slice n1 h6.length n4, .int .i64 k1, .slice n2 h7.length n5] 27 (0, 0))) := ⟨(by rw [hw]; exact (pk b5.out))⟩; have m5 : q0f (s9.heap[c8]? = some (.cells #[.string k2, .string k4, .slice l4 h8.length l8, .int .i64 k5, .slice l5 h9.length l9] 27 (0, 0))) := ⟨(by rw [hw]; exact (pk c6.out))⟩; have m6 : q0f (s9.heap[c9]? = some (.cells #[.string o1, .string o2, .slice k7 m9.length k9, .int .i64 o3, .slice k8 n0.length l1] 27 (0, 0))) := ⟨(by rw [hw]; exact (pk d1.out))⟩; have m7 : q0f (s9.heap[d0]? = some (.cells #[.string i5, .string i6, .slice A4 i7.length C4, .int .i64 i8, .slice A7 i9.length C5] 27 (0, 0))) := ⟨(by rw [hw]; exact (pP d5.out))⟩; have m8 : q0f (Below w.heap.size w s9) := ⟨(by rw [hw]; exact (pB HB.out))⟩; clear hw a4 a5 a7 a8 a9 b0 b1 b2 b7 b8 d6 d7 a6 b3 b5 c6 d1 d5 HB; have a4 := p4; have a5 := p5; have a7 := p6; have a8 := p7; have a9 := p8; have b0 := p9; have b1 := q0; have b2 := q2; have b7 := q3; have b8 := q4; have d6 := m0; have d7 := m1; have a6 := m2; have b3 := m3; have b5 := m4; have c6 := m5; have d1 := m6; have d5 := m7; have HB := m8; clear p4 p5 p6 p7 p8 p9 q0 q2 q3 q4 m0 m1 m2 m3 m4 m5 m6 m7 m8; have S5 := y5 a6) | ((with_reducible refine gC 20 ?_); refine gL 126 Try.func20 #[.agg #[.string e2, .string e3, .slice g0 d3.length g2, .int .i64 d2, .slice g1 d4.length g3], .int .i64 ji9, .int .i64 a3, .string (⟨#[114]⟩ : ByteArray)] ?_; (with_reducible refine (Gh.calls k3 e2 e3 (fun k_ => (k_ ≠ b4 ∧ (k_ ≠ b6 ∧ (k_ ≠ b9 ∧ (k_ ≠ c8 ∧ (k_ ≠ c9 ∧ k_ ≠ d0)))))) _ _ d3 d2 (fun k_ => (k_ ≠ b4 ∧ (k_ ≠ b6 ∧ (k_ ≠ b9 ∧ (k_ ≠ c8 ∧ (k_ ≠ c9 ∧ k_ ≠ d0)))))) _ _ d4 ji9 a3 (⟨#[114]⟩ : ByteArray) w3 w4 w5 w6 w7 H8 _ ?side1 ?side2 K1.out).mono ?_); (case side1 => exact a4.out); (case side2 => exact a5.out); rintro e EA ⟨CP, CQ, rfl, g6, g7, hb⟩; refine ⟨_, rfl, ?_⟩; replace a4 := vB a4 hb; replace a5 := vB a5 hb; replace a7 := vB a7 hb; replace a8 := vB a8 hb; replace a9 := vB a9 hb; replace b0 := vB b0 hb; replace b1 := vB b1 hb; replace b2 := vB b2 hb; replace b7 := vB b7 hb; replace b8 := vB b8 hb; replace d6 := vB d6 hb; replace d7 := vB d7 hb; have o5 := vL (ok' := fun k_ => k_ ≠ b4 ∧ k_ ≠ b6 ∧ k_ ≠ b9 ∧ k_ ≠ c8 ∧ k_ ≠ c9 ∧ k_ ≠ d0) HB g6 (fun k_ d8 => ⟨Or.elim d8 (fun a0 => Or.elim a0 (fun a0 => a0.1) (fun a0 => a0.1)) (fB a6), Or.elim d8 (fun a0 => Or.elim a0 (fun a0 => a0.2.1) (fun a0 => a0.2.1)) (fB b3), Or.elim d8 (fun a0 => Or.elim a0 (fun a0 => a0.2.2.1) (fun a0 => a0.2.2.1)) (fB b5), Or.elim d8 (fun a0 => Or.elim a0 (fun a0 => a0.2.2.2.1) (fun a0 => a0.2.2.2.1)) (fB c6), Or.elim d8 (fun a0 => Or.elim a0 (fun a0 => a0.2.2.2.2.1) (fun a0 => a0.2.2.2.2.1)) (fB d1), Or.elim d8 (fun a0 => Or.elim a0 (fun a0 => a0.2.2.2.2.2) (fun a0 => a0.2.2.2.2.2)) (fB d5)⟩); have o6 := vL (ok' := fun k_ => k_ ≠ b4 ∧ k_ ≠ b6 ∧ k_ ≠ b9 ∧ k_ ≠ c8 ∧ k_ ≠ c9 ∧ k_ ≠ d0) HB g7 (fun k_ d8 => ⟨Or.elim d8 (fun a0 => Or.elim a0 (fun a0 => a0.1) (fun a0 => a0.1)) (fB a6), Or.elim d8 (fun a0 => Or.elim a0 (fun a0 => a0.2.1) (fun a0 => a0.2.1)) (fB b3), Or.elim d8 (fun a0 => Or.elim a0 (fun a0 => a0.2.2.1) (fun a0 => a0.2.2.1)) (fB b5), Or.elim d8 (fun a0 => Or.elim a0 (fun a0 => a0.2.2.2.1) (fun a0 => a0.2.2.2.1)) (fB c6), Or.elim d8 (fun a0 => Or.elim a0 (fun a0 => a0.2.2.2.2.1) (fun a0 => a0.2.2.2.2.1)) (fB d1), Or.elim d8 (fun a0 => Or.elim a0 (fun a0 => a0.2.2.2.2.2) (fun a0 => a0.2.2.2.2.2)) (fB d5)⟩); replace a6 := kB a6 hb; replace b3 := kB b3 hb; replace b5 := kB b5 hb; replace c6 := kB c6 hb; replace d1 := kB d1 hb; replace d5 := kB d5 hb; replace HB := bS HB hb; (try clear hb); (try clear g6); (try clear g7); have S6 := y5 d5; obtain ⟨Dd, Dp, O4⟩ := Kd.V_slice o5.out; subst O4; obtain ⟨De, Dq, O5⟩ := Kd.V_slice o6.out; subst O5))
          go_roundg k3
          case measure => have := k6.out; have := i0.out; have := s5.out; omega
          case rel => exact ⟨(wrap64 (g4 + 1)), el, H', ⟨by have := k6.out; have := i0.out; have := s5.out; omega⟩, (vM a4), (vM a5), (vM a7), (vM a8), (vM a9), (vM b0), (vM b1), (vM b2), (vM b7), (vM b8), ⟨pk a6.out⟩, ⟨pk b3.out⟩, ⟨pk b5.out⟩, ⟨pk c6.out⟩, ⟨pk d1.out⟩, ⟨pB HB.out⟩⟩
         rw [if_neg u4] at H
         obtain ⟨E4, E5⟩ := qf u4
         by_cases u6 : g4 = 2
         ·
          rw [if_pos u6] at H
          obtain ⟨E8, E9⟩ := qt u6
          clear u6
          replace H := Option.bind_eq_some_iff.mp H
          obtain ⟨⟨w8, w9, x0, x2, x3, H9⟩, y9, H⟩ := H
          try dsimp only at H
          have K2 := am y9
          clear y9
          by_cases u7 : H9 = 0
          ·
           rw [if_pos u7] at H
           obtain ⟨H0, H1⟩ := qt u7
           clear u7
           replace H := Option.bind_eq_some_iff.mp H
           obtain ⟨CI, z0, H⟩ := H
           try dsimp only at H
           have Ah := am z0
           clear z0
           by_cases v4 : CI = true
           ·
            subst v4
            rw [if_pos rfl] at H
            try dsimp only at H
            by_cases v5 : d2 = 0
            ·
             rw [if_pos v5] at H
             obtain ⟨Ap, Aq⟩ := qt v5
             clear v5
             have H' := am H
             clear H
             have BA := nn f7
             have BB := nn f8
             have BC := nn f9
             have BD := nn g5
             have S7 := y5 a6
             go_wp2_with (first | ((with_reducible refine gC 19 ?_); refine gL 116 Try.func19 #[.agg #[.string e2, .string e3, .slice g0 d3.length g2, .int .i64 d2, .slice g1 d4.length g3], .int .i64 ji9, .int .i64 a3] ?_; (with_reducible refine (F9.calls k3 e2 e3 (fun k_ => (k_ ≠ b4 ∧ (k_ ≠ b6 ∧ (k_ ≠ b9 ∧ (k_ ≠ c8 ∧ k_ ≠ c9))))) _ _ d3 d2 (fun k_ => (k_ ≠ b4 ∧ (k_ ≠ b6 ∧ (k_ ≠ b9 ∧ (k_ ≠ c8 ∧ k_ ≠ c9))))) _ _ d4 ji9 a3 i5 i6 i7 i8 i9 r6 _ ?side1 ?side2 r8.out).mono ?_); (case side1 => exact a4.out); (case side2 => exact a5.out); rintro e EB ⟨s6, s7, rfl, g6, g7, hb⟩; refine ⟨_, rfl, ?_⟩; replace a4 := vB a4 hb; replace a5 := vB a5 hb; replace a7 := vB a7 hb; replace a8 := vB a8 hb; replace a9 := vB a9 hb; replace b0 := vB b0 hb; replace b1 := vB b1 hb; replace b2 := vB b2 hb; replace b7 := vB b7 hb; replace b8 := vB b8 hb; have d6 := vL (ok' := fun k_ => k_ ≠ b4 ∧ k_ ≠ b6 ∧ k_ ≠ b9 ∧ k_ ≠ c8 ∧ k_ ≠ c9) HB g6 (fun k_ d8 => ⟨Or.elim d8 (fun a0 => Or.elim a0 (fun a0 => a0.1) (fun a0 => a0.1)) (fB a6), Or.elim d8 (fun a0 => Or.elim a0 (fun a0 => a0.2.1) (fun a0 => a0.2.1)) (fB b3), Or.elim d8 (fun a0 => Or.elim a0 (fun a0 => a0.2.2.1) (fun a0 => a0.2.2.1)) (fB b5), Or.elim d8 (fun a0 => Or.elim a0 (fun a0 => a0.2.2.2.1) (fun a0 => a0.2.2.2.1)) (fB c6), Or.elim d8 (fun a0 => Or.elim a0 (fun a0 => a0.2.2.2.2) (fun a0 => a0.2.2.2.2)) (fB d1)⟩); have d7 := vL (ok' := fun k_ => k_ ≠ b4 ∧ k_ ≠ b6 ∧ k_ ≠ b9 ∧ k_ ≠ c8 ∧ k_ ≠ c9) HB g7 (fun k_ d8 => ⟨Or.elim d8 (fun a0 => Or.elim a0 (fun a0 => a0.1) (fun a0 => a0.1)) (fB a6), Or.elim d8 (fun a0 => Or.elim a0 (fun a0 => a0.2.1) (fun a0 => a0.2.1)) (fB b3), Or.elim d8 (fun a0 => Or.elim a0 (fun a0 => a0.2.2.1) (fun a0 => a0.2.2.1)) (fB b5), Or.elim d8 (fun a0 => Or.elim a0 (fun a0 => a0.2.2.2.1) (fun a0 => a0.2.2.2.1)) (fB c6), Or.elim d8 (fun a0 => Or.elim a0 (fun a0 => a0.2.2.2.2) (fun a0 => a0.2.2.2.2)) (fB d1)⟩); replace a6 := kB a6 hb; replace b3 := kB b3 hb; replace b5 := kB b5 hb; replace c6 := kB c6 hb; replace d1 := kB d1 hb; replace HB := bS HB hb; (try clear hb); (try clear g6); (try clear g7)) | ((with_reducible refine gD 19 ?_); refine bz 19 #[.string (⟨#[]⟩ : ByteArray), .string (⟨#[]⟩ : ByteArray), .slice none 0 0, .int .i64 0, .slice none 0 0] 27 HB ?_; clear HB; intro d0 hg CX hb d5 o4 HB; replace a4 := vE a4 hg hb; replace a5 := vE a5 hg hb; replace a7 := vE a7 hg hb; replace a8 := vE a8 hg hb; replace a9 := vE a9 hg hb; replace b0 := vE b0 hg hb; replace b1 := vE b1 hg hb; replace b2 := vE b2 hg hb; replace b7 := vE b7 hg hb; replace b8 := vE b8 hg hb; replace d6 := vE d6 hg hb; replace d7 := vE d7 hg hb; have h0 := nL hg a6; have f1 := nG hg a6; replace a6 := kB a6 hb; have h2 := nL hg b3; have f2 := nG hg b3; replace b3 := kB b3 hb; have h3 := nL hg b5; have f3 := nG hg b5; replace b5 := kB b5 hb; have h4 := nL hg c6; have f4 := nG hg c6; replace c6 := kB c6 hb; have h5 := nL hg d1; have f5 := nG hg d1; replace d1 := kB d1 hb; clear hb hg; have BE := nn f1; have BF := nn f2; have BG := nn f3; have BH := nn f4; have BI := nn f5; have S8 := y5 d5; obtain ⟨A8, C6, O6⟩ := Kd.V_slice d6.out; subst O6; obtain ⟨A9, C7, O7⟩ := Kd.V_slice d7.out; subst O7) | ((with_reducible refine q2g (t := 27) (p := 19) rfl ?_); refine q1y (t := 27) (p := 19) (v := ?vo_w231) (w1 := (((((CX.setCell ⟨d0, 0, none⟩ (.string i5)).setCell ⟨d0, 1, none⟩ (.string i6)).setCell ⟨d0, 2, none⟩ (.slice A8 i7.length C6)).setCell ⟨d0, 3, none⟩ (.int .i64 i8)).setCell ⟨d0, 4, none⟩ (.slice A9 i9.length C7))) ?hg ?ho ?hn ?hr ?_; (case ho => rfl); (case hg => rfl); (case hn => rfl); (case hr => first | (go_simp; done) | (go_simp; rfl)); intro t0 hw; have p4 := vW (ok' := fun k_ => k_ ≠ b4 ∧ k_ ≠ b6 ∧ k_ ≠ b9 ∧ k_ ≠ c8 ∧ k_ ≠ c9 ∧ k_ ≠ d0) hw a4; have p5 := vW (ok' := fun k_ => k_ ≠ b4 ∧ k_ ≠ b6 ∧ k_ ≠ b9 ∧ k_ ≠ c8 ∧ k_ ≠ c9 ∧ k_ ≠ d0) hw a5; have p6 := vW (ok' := fun k_ => k_ ≠ b4 ∧ k_ ≠ b6 ∧ k_ ≠ b9 ∧ k_ ≠ c8 ∧ k_ ≠ c9 ∧ k_ ≠ d0) hw a7; have p7 := vW (ok' := fun k_ => k_ ≠ b4 ∧ k_ ≠ b6 ∧ k_ ≠ b9 ∧ k_ ≠ c8 ∧ k_ ≠ c9 ∧ k_ ≠ d0) hw a8; have p8 := vW (ok' := fun k_ => k_ ≠ b4 ∧ k_ ≠ b6 ∧ k_ ≠ b9 ∧ k_ ≠ c8 ∧ k_ ≠ c9 ∧ k_ ≠ d0) hw a9; have p9 := vW (ok' := fun k_ => k_ ≠ b4 ∧ k_ ≠ b6 ∧ k_ ≠ b9 ∧ k_ ≠ c8 ∧ k_ ≠ c9 ∧ k_ ≠ d0) hw b0; have q0 := vW (ok' := fun k_ => k_ ≠ b4 ∧ k_ ≠ b6 ∧ k_ ≠ b9 ∧ k_ ≠ c8 ∧ k_ ≠ c9 ∧ k_ ≠ d0) hw b1; have q2 := vW (ok' := fun k_ => k_ ≠ b4 ∧ k_ ≠ b6 ∧ k_ ≠ b9 ∧ k_ ≠ c8 ∧ k_ ≠ c9 ∧ k_ ≠ d0) hw b2; have q3 := vW (ok' := fun k_ => k_ ≠ b4 ∧ k_ ≠ b6 ∧ k_ ≠ b9 ∧ k_ ≠ c8 ∧ k_ ≠ c9 ∧ k_ ≠ d0) hw b7; have q4 := vW (ok' := fun k_ => k_ ≠ b4 ∧ k_ ≠ b6 ∧ k_ ≠ b9 ∧ k_ ≠ c8 ∧ k_ ≠ c9 ∧ k_ ≠ d0) hw b8; have m0 := vW (ok' := fun k_ => k_ ≠ b4 ∧ k_ ≠ b6 ∧ k_ ≠ b9 ∧ k_ ≠ c8 ∧ k_ ≠ c9 ∧ k_ ≠ d0) hw d6; have m1 := vW (ok' := fun k_ => k_ ≠ b4 ∧ k_ ≠ b6 ∧ k_ ≠ b9 ∧ k_ ≠ c8 ∧ k_ ≠ c9 ∧ k_ ≠ d0) hw d7; have m2 : q0f (t0.heap[b4]? = some (.cells #[.string e2, .string e3, .slice g0 d3.length g2, .int .i64 d2, .slice g1 d4.length g3] 27 (0, 0))) := ⟨(by rw [hw]; exact (pk a6.out))⟩; have m3 : q0f (t0.heap[b6]? = some (.cells #[.string j6, .string j7, .slice l2 g8.length l6, .int .i64 j8, .slice l3 g9.length l7] 27 (0, 0))) := ⟨(by rw [hw]; exact (pk b3.out))⟩; have m4 : q0f (t0.heap[b9]? = some (.cells #[.string j9, .string k0, .slice n1 h6.length n4, .int .i64 k1, .slice n2 h7.length n5] 27 (0, 0))) := ⟨(by rw [hw]; exact (pk b5.out))⟩; have m5 : q0f (t0.heap[c8]? = some (.cells #[.string k2, .string k4, .slice l4 h8.length l8, .int .i64 k5, .slice l5 h9.length l9] 27 (0, 0))) := ⟨(by rw [hw]; exact (pk c6.out))⟩; have m6 : q0f (t0.heap[c9]? = some (.cells #[.string o1, .string o2, .slice k7 m9.length k9, .int .i64 o3, .slice k8 n0.length l1] 27 (0, 0))) := ⟨(by rw [hw]; exact (pk d1.out))⟩; have m7 : q0f (t0.heap[d0]? = some (.cells #[.string i5, .string i6, .slice A8 i7.length C6, .int .i64 i8, .slice A9 i9.length C7] 27 (0, 0))) := ⟨(by rw [hw]; exact (pP d5.out))⟩; have m8 : q0f (Below w.heap.size w t0) := ⟨(by rw [hw]; exact (pB HB.out))⟩; clear hw a4 a5 a7 a8 a9 b0 b1 b2 b7 b8 d6 d7 a6 b3 b5 c6 d1 d5 HB; have a4 := p4; have a5 := p5; have a7 := p6; have a8 := p7; have a9 := p8; have b0 := p9; have b1 := q0; have b2 := q2; have b7 := q3; have b8 := q4; have d6 := m0; have d7 := m1; have a6 := m2; have b3 := m3; have b5 := m4; have c6 := m5; have d1 := m6; have d5 := m7; have HB := m8; clear p4 p5 p6 p7 p8 p9 q0 q2 q3 q4 m0 m1 m2 m3 m4 m5 m6 m7 m8; have S9 := y5 a6) | ((with_reducible refine gC 21 ?_); refine gL 135 Try.func21 #[.agg #[.string e2, .string e3, .slice g0 d3.length g2, .int .i64 d2, .slice g1 d4.length g3], .int .i64 ji9, .int .i64 a3] ?_; (with_reducible refine (Gi.calls k3 e2 e3 (fun k_ => (k_ ≠ b4 ∧ (k_ ≠ b6 ∧ (k_ ≠ b9 ∧ (k_ ≠ c8 ∧ (k_ ≠ c9 ∧ k_ ≠ d0)))))) _ _ d3 d2 (fun k_ => (k_ ≠ b4 ∧ (k_ ≠ b6 ∧ (k_ ≠ b9 ∧ (k_ ≠ c8 ∧ (k_ ≠ c9 ∧ k_ ≠ d0)))))) _ _ d4 ji9 a3 w8 w9 x0 x2 x3 H9 _ ?side1 ?side2 K2.out).mono ?_); (case side1 => exact a4.out); (case side2 => exact a5.out); rintro e EC ⟨CR, CS, rfl, g6, g7, hb⟩; refine ⟨_, rfl, ?_⟩; replace a4 := vB a4 hb; replace a5 := vB a5 hb; replace a7 := vB a7 hb; replace a8 := vB a8 hb; replace a9 := vB a9 hb; replace b0 := vB b0 hb; replace b1 := vB b1 hb; replace b2 := vB b2 hb; replace b7 := vB b7 hb; replace b8 := vB b8 hb; replace d6 := vB d6 hb; replace d7 := vB d7 hb; have o7 := vL (ok' := fun k_ => k_ ≠ b4 ∧ k_ ≠ b6 ∧ k_ ≠ b9 ∧ k_ ≠ c8 ∧ k_ ≠ c9 ∧ k_ ≠ d0) HB g6 (fun k_ d8 => ⟨Or.elim d8 (fun a0 => Or.elim a0 (fun a0 => a0.1) (fun a0 => a0.1)) (fB a6), Or.elim d8 (fun a0 => Or.elim a0 (fun a0 => a0.2.1) (fun a0 => a0.2.1)) (fB b3), Or.elim d8 (fun a0 => Or.elim a0 (fun a0 => a0.2.2.1) (fun a0 => a0.2.2.1)) (fB b5), Or.elim d8 (fun a0 => Or.elim a0 (fun a0 => a0.2.2.2.1) (fun a0 => a0.2.2.2.1)) (fB c6), Or.elim d8 (fun a0 => Or.elim a0 (fun a0 => a0.2.2.2.2.1) (fun a0 => a0.2.2.2.2.1)) (fB d1), Or.elim d8 (fun a0 => Or.elim a0 (fun a0 => a0.2.2.2.2.2) (fun a0 => a0.2.2.2.2.2)) (fB d5)⟩); have o8 := vL (ok' := fun k_ => k_ ≠ b4 ∧ k_ ≠ b6 ∧ k_ ≠ b9 ∧ k_ ≠ c8 ∧ k_ ≠ c9 ∧ k_ ≠ d0) HB g7 (fun k_ d8 => ⟨Or.elim d8 (fun a0 => Or.elim a0 (fun a0 => a0.1) (fun a0 => a0.1)) (fB a6), Or.elim d8 (fun a0 => Or.elim a0 (fun a0 => a0.2.1) (fun a0 => a0.2.1)) (fB b3), Or.elim d8 (fun a0 => Or.elim a0 (fun a0 => a0.2.2.1) (fun a0 => a0.2.2.1)) (fB b5), Or.elim d8 (fun a0 => Or.elim a0 (fun a0 => a0.2.2.2.1) (fun a0 => a0.2.2.2.1)) (fB c6), Or.elim d8 (fun a0 => Or.elim a0 (fun a0 => a0.2.2.2.2.1) (fun a0 => a0.2.2.2.2.1)) (fB d1), Or.elim d8 (fun a0 => Or.elim a0 (fun a0 => a0.2.2.2.2.2) (fun a0 => a0.2.2.2.2.2)) (fB d5)⟩); replace a6 := kB a6 hb; replace b3 := kB b3 hb; replace b5 := kB b5 hb; replace c6 := kB c6 hb; replace d1 := kB d1 hb; replace d5 := kB d5 hb; replace HB := bS HB hb; (try clear hb); (try clear g6); (try clear g7); have T0 := y5 d5; obtain ⟨L1, N0, O8⟩ := Kd.V_slice o7.out; subst O8; obtain ⟨L2, N1, O9⟩ := Kd.V_slice o8.out; subst O9) | (go_at_call 15; (with_reducible refine (Fa.calls k3 w8 w9 _ _ x0 x2 _ _ x3 true _ ?side1 ?side2 ?side3 ?side4 Ah.out).mono ?_); (case side1 => exact (Kd.V_reads' (pV o7.out)).2.2); (case side2 => exact (Kd.V_reads' o7.out).2.1); (case side3 => exact (Kd.V_reads' (pV o8.out)).2.2); (case side4 => exact (Kd.V_reads' o8.out).2.1); rintro e ED ⟨rfl, hb⟩; replace a4 := vB a4 hb; replace a5 := vB a5 hb; replace a7 := vB a7 hb; replace a8 := vB a8 hb; replace a9 := vB a9 hb; replace b0 := vB b0 hb; replace b1 := vB b1 hb; replace b2 := vB b2 hb; replace b7 := vB b7 hb; replace b8 := vB b8 hb; replace d6 := vB d6 hb; replace d7 := vB d7 hb; replace o7 := vB o7 hb; replace o8 := vB o8 hb; replace a6 := kB a6 hb; replace b3 := kB b3 hb; replace b5 := kB b5 hb; replace c6 := kB c6 hb; replace d1 := kB d1 hb; replace d5 := am (q0b (g := d0) (o := .cells #[.string w8, .string w9, .slice L1 x0.length N0, .int .i64 x2, .slice L2 x3.length N1] 27 (0, 0)) (pP d5.out) hb); replace HB := bS HB hb; (try clear hb); have T1 := y5 a6))
             go_roundg k3
             case measure => have := k6.out; have := i0.out; have := s5.out; omega
             case rel => exact ⟨(wrap64 (g4 + 1)), el, H', ⟨by have := k6.out; have := i0.out; have := s5.out; omega⟩, (vM a4), (vM a5), (vM a7), (vM a8), (vM a9), (vM b0), (vM b1), (vM b2), (vM b7), (vM b8), ⟨pk a6.out⟩, ⟨pk b3.out⟩, ⟨pk b5.out⟩, ⟨pk c6.out⟩, ⟨pk d1.out⟩, ⟨pB HB.out⟩⟩
            rw [if_neg v5] at H
            exact absurd H (by simp)
           replace v4 := Bool.eq_false_iff.mpr v4
           subst v4
           rw [if_neg (show ¬ (false = true) by decide)] at H
           try dsimp only at H
           exact absurd H (by simp)
          rw [if_neg u7] at H
          obtain ⟨H0, H1⟩ := qf u7
          have H' := am H
          clear H
          have BJ := nn f7
          have BK := nn f8
          have BL := nn f9
          have BM := nn g5
          have T2 := y5 a6
          go_wp2_with (first | ((with_reducible refine gC 19 ?_); refine gL 116 Try.func19 #[.agg #[.string e2, .string e3, .slice g0 d3.length g2, .int .i64 d2, .slice g1 d4.length g3], .int .i64 ji9, .int .i64 a3] ?_; (with_reducible refine (F9.calls k3 e2 e3 (fun k_ => (k_ ≠ b4 ∧ (k_ ≠ b6 ∧ (k_ ≠ b9 ∧ (k_ ≠ c8 ∧ k_ ≠ c9))))) _ _ d3 d2 (fun k_ => (k_ ≠ b4 ∧ (k_ ≠ b6 ∧ (k_ ≠ b9 ∧ (k_ ≠ c8 ∧ k_ ≠ c9))))) _ _ d4 ji9 a3 i5 i6 i7 i8 i9 r6 _ ?side1 ?side2 r8.out).mono ?_); (case side1 => exact a4.out); (case side2 => exact a5.out); rintro e EE ⟨s6, s7, rfl, g6, g7, hb⟩; refine ⟨_, rfl, ?_⟩; replace a4 := vB a4 hb; replace a5 := vB a5 hb; replace a7 := vB a7 hb; replace a8 := vB a8 hb; replace a9 := vB a9 hb; replace b0 := vB b0 hb; replace b1 := vB b1 hb; replace b2 := vB b2 hb; replace b7 := vB b7 hb; replace b8 := vB b8 hb; have d6 := vL (ok' := fun k_ => k_ ≠ b4 ∧ k_ ≠ b6 ∧ k_ ≠ b9 ∧ k_ ≠ c8 ∧ k_ ≠ c9) HB g6 (fun k_ d8 => ⟨Or.elim d8 (fun a0 => Or.elim a0 (fun a0 => a0.1) (fun a0 => a0.1)) (fB a6), Or.elim d8 (fun a0 => Or.elim a0 (fun a0 => a0.2.1) (fun a0 => a0.2.1)) (fB b3), Or.elim d8 (fun a0 => Or.elim a0 (fun a0 => a0.2.2.1) (fun a0 => a0.2.2.1)) (fB b5), Or.elim d8 (fun a0 => Or.elim a0 (fun a0 => a0.2.2.2.1) (fun a0 => a0.2.2.2.1)) (fB c6), Or.elim d8 (fun a0 => Or.elim a0 (fun a0 => a0.2.2.2.2) (fun a0 => a0.2.2.2.2)) (fB d1)⟩); have d7 := vL (ok' := fun k_ => k_ ≠ b4 ∧ k_ ≠ b6 ∧ k_ ≠ b9 ∧ k_ ≠ c8 ∧ k_ ≠ c9) HB g7 (fun k_ d8 => ⟨Or.elim d8 (fun a0 => Or.elim a0 (fun a0 => a0.1) (fun a0 => a0.1)) (fB a6), Or.elim d8 (fun a0 => Or.elim a0 (fun a0 => a0.2.1) (fun a0 => a0.2.1)) (fB b3), Or.elim d8 (fun a0 => Or.elim a0 (fun a0 => a0.2.2.1) (fun a0 => a0.2.2.1)) (fB b5), Or.elim d8 (fun a0 => Or.elim a0 (fun a0 => a0.2.2.2.1) (fun a0 => a0.2.2.2.1)) (fB c6), Or.elim d8 (fun a0 => Or.elim a0 (fun a0 => a0.2.2.2.2) (fun a0 => a0.2.2.2.2)) (fB d1)⟩); replace a6 := kB a6 hb; replace b3 := kB b3 hb; replace b5 := kB b5 hb; replace c6 := kB c6 hb; replace d1 := kB d1 hb; replace HB := bS HB hb; (try clear hb); (try clear g6); (try clear g7)) | ((with_reducible refine gD 19 ?_); refine bz 19 #[.string (⟨#[]⟩ : ByteArray), .string (⟨#[]⟩ : ByteArray), .slice none 0 0, .int .i64 0, .slice none 0 0] 27 HB ?_; clear HB; intro d0 hg CY hb d5 o4 HB; replace a4 := vE a4 hg hb; replace a5 := vE a5 hg hb; replace a7 := vE a7 hg hb; replace a8 := vE a8 hg hb; replace a9 := vE a9 hg hb; replace b0 := vE b0 hg hb; replace b1 := vE b1 hg hb; replace b2 := vE b2 hg hb; replace b7 := vE b7 hg hb; replace b8 := vE b8 hg hb; replace d6 := vE d6 hg hb; replace d7 := vE d7 hg hb; have h0 := nL hg a6; have f1 := nG hg a6; replace a6 := kB a6 hb; have h2 := nL hg b3; have f2 := nG hg b3; replace b3 := kB b3 hb; have h3 := nL hg b5; have f3 := nG hg b5; replace b5 := kB b5 hb; have h4 := nL hg c6; have f4 := nG hg c6; replace c6 := kB c6 hb; have h5 := nL hg d1; have f5 := nG hg d1; replace d1 := kB d1 hb; clear hb hg; have BN := nn f1; have BO := nn f2; have BP := nn f3; have BQ := nn f4; have BR := nn f5; have T3 := y5 d5; obtain ⟨B0, C8, P0⟩ := Kd.V_slice d6.out; subst P0; obtain ⟨B1, C9, P1⟩ := Kd.V_slice d7.out; subst P1) | ((with_reducible refine q2g (t := 27) (p := 19) rfl ?_); refine q1y (t := 27) (p := 19) (v := ?vo_w254) (w1 := (((((CY.setCell ⟨d0, 0, none⟩ (.string i5)).setCell ⟨d0, 1, none⟩ (.string i6)).setCell ⟨d0, 2, none⟩ (.slice B0 i7.length C8)).setCell ⟨d0, 3, none⟩ (.int .i64 i8)).setCell ⟨d0, 4, none⟩ (.slice B1 i9.length C9))) ?hg ?ho ?hn ?hr ?_; (case ho => rfl); (case hg => rfl); (case hn => rfl); (case hr => first | (go_simp; done) | (go_simp; rfl)); intro t1 hw; have p4 := vW (ok' := fun k_ => k_ ≠ b4 ∧ k_ ≠ b6 ∧ k_ ≠ b9 ∧ k_ ≠ c8 ∧ k_ ≠ c9 ∧ k_ ≠ d0) hw a4; have p5 := vW (ok' := fun k_ => k_ ≠ b4 ∧ k_ ≠ b6 ∧ k_ ≠ b9 ∧ k_ ≠ c8 ∧ k_ ≠ c9 ∧ k_ ≠ d0) hw a5; have p6 := vW (ok' := fun k_ => k_ ≠ b4 ∧ k_ ≠ b6 ∧ k_ ≠ b9 ∧ k_ ≠ c8 ∧ k_ ≠ c9 ∧ k_ ≠ d0) hw a7; have p7 := vW (ok' := fun k_ => k_ ≠ b4 ∧ k_ ≠ b6 ∧ k_ ≠ b9 ∧ k_ ≠ c8 ∧ k_ ≠ c9 ∧ k_ ≠ d0) hw a8; have p8 := vW (ok' := fun k_ => k_ ≠ b4 ∧ k_ ≠ b6 ∧ k_ ≠ b9 ∧ k_ ≠ c8 ∧ k_ ≠ c9 ∧ k_ ≠ d0) hw a9; have p9 := vW (ok' := fun k_ => k_ ≠ b4 ∧ k_ ≠ b6 ∧ k_ ≠ b9 ∧ k_ ≠ c8 ∧ k_ ≠ c9 ∧ k_ ≠ d0) hw b0; have q0 := vW (ok' := fun k_ => k_ ≠ b4 ∧ k_ ≠ b6 ∧ k_ ≠ b9 ∧ k_ ≠ c8 ∧ k_ ≠ c9 ∧ k_ ≠ d0) hw b1; have q2 := vW (ok' := fun k_ => k_ ≠ b4 ∧ k_ ≠ b6 ∧ k_ ≠ b9 ∧ k_ ≠ c8 ∧ k_ ≠ c9 ∧ k_ ≠ d0) hw b2; have q3 := vW (ok' := fun k_ => k_ ≠ b4 ∧ k_ ≠ b6 ∧ k_ ≠ b9 ∧ k_ ≠ c8 ∧ k_ ≠ c9 ∧ k_ ≠ d0) hw b7; have q4 := vW (ok' := fun k_ => k_ ≠ b4 ∧ k_ ≠ b6 ∧ k_ ≠ b9 ∧ k_ ≠ c8 ∧ k_ ≠ c9 ∧ k_ ≠ d0) hw b8; have m0 := vW (ok' := fun k_ => k_ ≠ b4 ∧ k_ ≠ b6 ∧ k_ ≠ b9 ∧ k_ ≠ c8 ∧ k_ ≠ c9 ∧ k_ ≠ d0) hw d6; have m1 := vW (ok' := fun k_ => k_ ≠ b4 ∧ k_ ≠ b6 ∧ k_ ≠ b9 ∧ k_ ≠ c8 ∧ k_ ≠ c9 ∧ k_ ≠ d0) hw d7; have m2 : q0f (t1.heap[b4]? = some (.cells #[.string e2, .string e3, .slice g0 d3.length g2, .int .i64 d2, .slice g1 d4.length g3] 27 (0, 0))) := ⟨(by rw [hw]; exact (pk a6.out))⟩; have m3 : q0f (t1.heap[b6]? = some (.cells #[.string j6, .string j7, .slice l2 g8.length l6, .int .i64 j8, .slice l3 g9.length l7] 27 (0, 0))) := ⟨(by rw [hw]; exact (pk b3.out))⟩; have m4 : q0f (t1.heap[b9]? = some (.cells #[.string j9, .string k0, .slice n1 h6.length n4, .int .i64 k1, .slice n2 h7.length n5] 27 (0, 0))) := ⟨(by rw [hw]; exact (pk b5.out))⟩; have m5 : q0f (t1.heap[c8]? = some (.cells #[.string k2, .string k4, .slice l4 h8.length l8, .int .i64 k5, .slice l5 h9.length l9] 27 (0, 0))) := ⟨(by rw [hw]; exact (pk c6.out))⟩; have m6 : q0f (t1.heap[c9]? = some (.cells #[.string o1, .string o2, .slice k7 m9.length k9, .int .i64 o3, .slice k8 n0.length l1] 27 (0, 0))) := ⟨(by rw [hw]; exact (pk d1.out))⟩; have m7 : q0f (t1.heap[d0]? = some (.cells #[.string i5, .string i6, .slice B0 i7.length C8, .int .i64 i8, .slice B1 i9.length C9] 27 (0, 0))) := ⟨(by rw [hw]; exact (pP d5.out))⟩; have m8 : q0f (Below w.heap.size w t1) := ⟨(by rw [hw]; exact (pB HB.out))⟩; clear hw a4 a5 a7 a8 a9 b0 b1 b2 b7 b8 d6 d7 a6 b3 b5 c6 d1 d5 HB; have a4 := p4; have a5 := p5; have a7 := p6; have a8 := p7; have a9 := p8; have b0 := p9; have b1 := q0; have b2 := q2; have b7 := q3; have b8 := q4; have d6 := m0; have d7 := m1; have a6 := m2; have b3 := m3; have b5 := m4; have c6 := m5; have d1 := m6; have d5 := m7; have HB := m8; clear p4 p5 p6 p7 p8 p9 q0 q2 q3 q4 m0 m1 m2 m3 m4 m5 m6 m7 m8; have T4 := y5 a6) | ((with_reducible refine gC 21 ?_); refine gL 135 Try.func21 #[.agg #[.string e2, .string e3, .slice g0 d3.length g2, .int .i64 d2, .slice g1 d4.length g3], .int .i64 ji9, .int .i64 a3] ?_; (with_reducible refine (Gi.calls k3 e2 e3 (fun k_ => (k_ ≠ b4 ∧ (k_ ≠ b6 ∧ (k_ ≠ b9 ∧ (k_ ≠ c8 ∧ (k_ ≠ c9 ∧ k_ ≠ d0)))))) _ _ d3 d2 (fun k_ => (k_ ≠ b4 ∧ (k_ ≠ b6 ∧ (k_ ≠ b9 ∧ (k_ ≠ c8 ∧ (k_ ≠ c9 ∧ k_ ≠ d0)))))) _ _ d4 ji9 a3 w8 w9 x0 x2 x3 H9 _ ?side1 ?side2 K2.out).mono ?_); (case side1 => exact a4.out); (case side2 => exact a5.out); rintro e EG ⟨CR, CS, rfl, g6, g7, hb⟩; refine ⟨_, rfl, ?_⟩; replace a4 := vB a4 hb; replace a5 := vB a5 hb; replace a7 := vB a7 hb; replace a8 := vB a8 hb; replace a9 := vB a9 hb; replace b0 := vB b0 hb; replace b1 := vB b1 hb; replace b2 := vB b2 hb; replace b7 := vB b7 hb; replace b8 := vB b8 hb; replace d6 := vB d6 hb; replace d7 := vB d7 hb; have o7 := vL (ok' := fun k_ => k_ ≠ b4 ∧ k_ ≠ b6 ∧ k_ ≠ b9 ∧ k_ ≠ c8 ∧ k_ ≠ c9 ∧ k_ ≠ d0) HB g6 (fun k_ d8 => ⟨Or.elim d8 (fun a0 => Or.elim a0 (fun a0 => a0.1) (fun a0 => a0.1)) (fB a6), Or.elim d8 (fun a0 => Or.elim a0 (fun a0 => a0.2.1) (fun a0 => a0.2.1)) (fB b3), Or.elim d8 (fun a0 => Or.elim a0 (fun a0 => a0.2.2.1) (fun a0 => a0.2.2.1)) (fB b5), Or.elim d8 (fun a0 => Or.elim a0 (fun a0 => a0.2.2.2.1) (fun a0 => a0.2.2.2.1)) (fB c6), Or.elim d8 (fun a0 => Or.elim a0 (fun a0 => a0.2.2.2.2.1) (fun a0 => a0.2.2.2.2.1)) (fB d1), Or.elim d8 (fun a0 => Or.elim a0 (fun a0 => a0.2.2.2.2.2) (fun a0 => a0.2.2.2.2.2)) (fB d5)⟩); have o8 := vL (ok' := fun k_ => k_ ≠ b4 ∧ k_ ≠ b6 ∧ k_ ≠ b9 ∧ k_ ≠ c8 ∧ k_ ≠ c9 ∧ k_ ≠ d0) HB g7 (fun k_ d8 => ⟨Or.elim d8 (fun a0 => Or.elim a0 (fun a0 => a0.1) (fun a0 => a0.1)) (fB a6), Or.elim d8 (fun a0 => Or.elim a0 (fun a0 => a0.2.1) (fun a0 => a0.2.1)) (fB b3), Or.elim d8 (fun a0 => Or.elim a0 (fun a0 => a0.2.2.1) (fun a0 => a0.2.2.1)) (fB b5), Or.elim d8 (fun a0 => Or.elim a0 (fun a0 => a0.2.2.2.1) (fun a0 => a0.2.2.2.1)) (fB c6), Or.elim d8 (fun a0 => Or.elim a0 (fun a0 => a0.2.2.2.2.1) (fun a0 => a0.2.2.2.2.1)) (fB d1), Or.elim d8 (fun a0 => Or.elim a0 (fun a0 => a0.2.2.2.2.2) (fun a0 => a0.2.2.2.2.2)) (fB d5)⟩); replace a6 := kB a6 hb; replace b3 := kB b3 hb; replace b5 := kB b5 hb; replace c6 := kB c6 hb; replace d1 := kB d1 hb; replace d5 := kB d5 hb; replace HB := bS HB hb; (try clear hb); (try clear g6); (try clear g7); have T5 := y5 d5; obtain ⟨Df, Dr, P2⟩ := Kd.V_slice o7.out; subst P2; obtain ⟨Dg, Ds, P3⟩ := Kd.V_slice o8.out; subst P3))
          go_roundg k3
          case measure => have := k6.out; have := i0.out; have := s5.out; omega
          case rel => exact ⟨(wrap64 (g4 + 1)), el, H', ⟨by have := k6.out; have := i0.out; have := s5.out; omega⟩, (vM a4), (vM a5), (vM a7), (vM a8), (vM a9), (vM b0), (vM b1), (vM b2), (vM b7), (vM b8), ⟨pk a6.out⟩, ⟨pk b3.out⟩, ⟨pk b5.out⟩, ⟨pk c6.out⟩, ⟨pk d1.out⟩, ⟨pB HB.out⟩⟩
         rw [if_neg u6] at H
         obtain ⟨E8, E9⟩ := qf u6
         by_cases u8 : g4 = 3
         ·
          rw [if_pos u8] at H
          obtain ⟨H2, H3⟩ := qt u8
          clear u8
          replace H := Option.bind_eq_some_iff.mp H
          obtain ⟨⟨x4, x5, x6, x7, x8, I0⟩, z6, H⟩ := H
          try dsimp only at H
          have K3 := am z6
          clear z6
          by_cases u9 : I0 = 0
          ·
           rw [if_pos u9] at H
           obtain ⟨H4, H5⟩ := qt u9
           clear u9
           replace H := Option.bind_eq_some_iff.mp H
           obtain ⟨CJ, z7, H⟩ := H
           try dsimp only at H
           have Ai := am z7
           clear z7
           by_cases v6 : CJ = true
           ·
            subst v6
            rw [if_pos rfl] at H
            try dsimp only at H
            by_cases v7 : d2 = 0
            ·
             rw [if_pos v7] at H
             obtain ⟨Ar, As⟩ := qt v7
             clear v7
             have H' := am H
             clear H
             have BS := nn f7
             have BT := nn f8
             have BU := nn f9
             have BV := nn g5
             have T6 := y5 a6
             go_wp2_with (first | ((with_reducible refine gC 19 ?_); refine gL 116 Try.func19 #[.agg #[.string e2, .string e3, .slice g0 d3.length g2, .int .i64 d2, .slice g1 d4.length g3], .int .i64 ji9, .int .i64 a3] ?_; (with_reducible refine (F9.calls k3 e2 e3 (fun k_ => (k_ ≠ b4 ∧ (k_ ≠ b6 ∧ (k_ ≠ b9 ∧ (k_ ≠ c8 ∧ k_ ≠ c9))))) _ _ d3 d2 (fun k_ => (k_ ≠ b4 ∧ (k_ ≠ b6 ∧ (k_ ≠ b9 ∧ (k_ ≠ c8 ∧ k_ ≠ c9))))) _ _ d4 ji9 a3 i5 i6 i7 i8 i9 r6 _ ?side1 ?side2 r8.out).mono ?_); (case side1 => exact a4.out); (case side2 => exact a5.out); rintro e EH ⟨s6, s7, rfl, g6, g7, hb⟩; refine ⟨_, rfl, ?_⟩; replace a4 := vB a4 hb; replace a5 := vB a5 hb; replace a7 := vB a7 hb; replace a8 := vB a8 hb; replace a9 := vB a9 hb; replace b0 := vB b0 hb; replace b1 := vB b1 hb; replace b2 := vB b2 hb; replace b7 := vB b7 hb; replace b8 := vB b8 hb; have d6 := vL (ok' := fun k_ => k_ ≠ b4 ∧ k_ ≠ b6 ∧ k_ ≠ b9 ∧ k_ ≠ c8 ∧ k_ ≠ c9) HB g6 (fun k_ d8 => ⟨Or.elim d8 (fun a0 => Or.elim a0 (fun a0 => a0.1) (fun a0 => a0.1)) (fB a6), Or.elim d8 (fun a0 => Or.elim a0 (fun a0 => a0.2.1) (fun a0 => a0.2.1)) (fB b3), Or.elim d8 (fun a0 => Or.elim a0 (fun a0 => a0.2.2.1) (fun a0 => a0.2.2.1)) (fB b5), Or.elim d8 (fun a0 => Or.elim a0 (fun a0 => a0.2.2.2.1) (fun a0 => a0.2.2.2.1)) (fB c6), Or.elim d8 (fun a0 => Or.elim a0 (fun a0 => a0.2.2.2.2) (fun a0 => a0.2.2.2.2)) (fB d1)⟩); have d7 := vL (ok' := fun k_ => k_ ≠ b4 ∧ k_ ≠ b6 ∧ k_ ≠ b9 ∧ k_ ≠ c8 ∧ k_ ≠ c9) HB g7 (fun k_ d8 => ⟨Or.elim d8 (fun a0 => Or.elim a0 (fun a0 => a0.1) (fun a0 => a0.1)) (fB a6), Or.elim d8 (fun a0 => Or.elim a0 (fun a0 => a0.2.1) (fun a0 => a0.2.1)) (fB b3), Or.elim d8 (fun a0 => Or.elim a0 (fun a0 => a0.2.2.1) (fun a0 => a0.2.2.1)) (fB b5), Or.elim d8 (fun a0 => Or.elim a0 (fun a0 => a0.2.2.2.1) (fun a0 => a0.2.2.2.1)) (fB c6), Or.elim d8 (fun a0 => Or.elim a0 (fun a0 => a0.2.2.2.2) (fun a0 => a0.2.2.2.2)) (fB d1)⟩); replace a6 := kB a6 hb; replace b3 := kB b3 hb; replace b5 := kB b5 hb; replace c6 := kB c6 hb; replace d1 := kB d1 hb; replace HB := bS HB hb; (try clear hb); (try clear g6); (try clear g7)) | ((with_reducible refine gD 19 ?_); refine bz 19 #[.string (⟨#[]⟩ : ByteArray), .string (⟨#[]⟩ : ByteArray), .slice none 0 0, .int .i64 0, .slice none 0 0] 27 HB ?_; clear HB; intro d0 hg CZ hb d5 o4 HB; replace a4 := vE a4 hg hb; replace a5 := vE a5 hg hb; replace a7 := vE a7 hg hb; replace a8 := vE a8 hg hb; replace a9 := vE a9 hg hb; replace b0 := vE b0 hg hb; replace b1 := vE b1 hg hb; replace b2 := vE b2 hg hb; replace b7 := vE b7 hg hb; replace b8 := vE b8 hg hb; replace d6 := vE d6 hg hb; replace d7 := vE d7 hg hb; have h0 := nL hg a6; have f1 := nG hg a6; replace a6 := kB a6 hb; have h2 := nL hg b3; have f2 := nG hg b3; replace b3 := kB b3 hb; have h3 := nL hg b5; have f3 := nG hg b5; replace b5 := kB b5 hb; have h4 := nL hg c6; have f4 := nG hg c6; replace c6 := kB c6 hb; have h5 := nL hg d1; have f5 := nG hg d1; replace d1 := kB d1 hb; clear hb hg; have BW := nn f1; have BX := nn f2; have BY := nn f3; have BZ := nn f4; have Ca := nn f5; have T7 := y5 d5; obtain ⟨B2, D0, P4⟩ := Kd.V_slice d6.out; subst P4; obtain ⟨B3, D1, P5⟩ := Kd.V_slice d7.out; subst P5) | ((with_reducible refine q2g (t := 27) (p := 19) rfl ?_); refine q1y (t := 27) (p := 19) (v := ?vo_w281) (w1 := (((((CZ.setCell ⟨d0, 0, none⟩ (.string i5)).setCell ⟨d0, 1, none⟩ (.string i6)).setCell ⟨d0, 2, none⟩ (.slice B2 i7.length D0)).setCell ⟨d0, 3, none⟩ (.int .i64 i8)).setCell ⟨d0, 4, none⟩ (.slice B3 i9.length D1))) ?hg ?ho ?hn ?hr ?_; (case ho => rfl); (case hg => rfl); (case hn => rfl); (case hr => first | (go_simp; done) | (go_simp; rfl)); intro t2 hw; have p4 := vW (ok' := fun k_ => k_ ≠ b4 ∧ k_ ≠ b6 ∧ k_ ≠ b9 ∧ k_ ≠ c8 ∧ k_ ≠ c9 ∧ k_ ≠ d0) hw a4; have p5 := vW (ok' := fun k_ => k_ ≠ b4 ∧ k_ ≠ b6 ∧ k_ ≠ b9 ∧ k_ ≠ c8 ∧ k_ ≠ c9 ∧ k_ ≠ d0) hw a5; have p6 := vW (ok' := fun k_ => k_ ≠ b4 ∧ k_ ≠ b6 ∧ k_ ≠ b9 ∧ k_ ≠ c8 ∧ k_ ≠ c9 ∧ k_ ≠ d0) hw a7; have p7 := vW (ok' := fun k_ => k_ ≠ b4 ∧ k_ ≠ b6 ∧ k_ ≠ b9 ∧ k_ ≠ c8 ∧ k_ ≠ c9 ∧ k_ ≠ d0) hw a8; have p8 := vW (ok' := fun k_ => k_ ≠ b4 ∧ k_ ≠ b6 ∧ k_ ≠ b9 ∧ k_ ≠ c8 ∧ k_ ≠ c9 ∧ k_ ≠ d0) hw a9; have p9 := vW (ok' := fun k_ => k_ ≠ b4 ∧ k_ ≠ b6 ∧ k_ ≠ b9 ∧ k_ ≠ c8 ∧ k_ ≠ c9 ∧ k_ ≠ d0) hw b0; have q0 := vW (ok' := fun k_ => k_ ≠ b4 ∧ k_ ≠ b6 ∧ k_ ≠ b9 ∧ k_ ≠ c8 ∧ k_ ≠ c9 ∧ k_ ≠ d0) hw b1; have q2 := vW (ok' := fun k_ => k_ ≠ b4 ∧ k_ ≠ b6 ∧ k_ ≠ b9 ∧ k_ ≠ c8 ∧ k_ ≠ c9 ∧ k_ ≠ d0) hw b2; have q3 := vW (ok' := fun k_ => k_ ≠ b4 ∧ k_ ≠ b6 ∧ k_ ≠ b9 ∧ k_ ≠ c8 ∧ k_ ≠ c9 ∧ k_ ≠ d0) hw b7; have q4 := vW (ok' := fun k_ => k_ ≠ b4 ∧ k_ ≠ b6 ∧ k_ ≠ b9 ∧ k_ ≠ c8 ∧ k_ ≠ c9 ∧ k_ ≠ d0) hw b8; have m0 := vW (ok' := fun k_ => k_ ≠ b4 ∧ k_ ≠ b6 ∧ k_ ≠ b9 ∧ k_ ≠ c8 ∧ k_ ≠ c9 ∧ k_ ≠ d0) hw d6; have m1 := vW (ok' := fun k_ => k_ ≠ b4 ∧ k_ ≠ b6 ∧ k_ ≠ b9 ∧ k_ ≠ c8 ∧ k_ ≠ c9 ∧ k_ ≠ d0) hw d7; have m2 : q0f (t2.heap[b4]? = some (.cells #[.string e2, .string e3, .slice g0 d3.length g2, .int .i64 d2, .slice g1 d4.length g3] 27 (0, 0))) := ⟨(by rw [hw]; exact (pk a6.out))⟩; have m3 : q0f (t2.heap[b6]? = some (.cells #[.string j6, .string j7, .slice l2 g8.length l6, .int .i64 j8, .slice l3 g9.length l7] 27 (0, 0))) := ⟨(by rw [hw]; exact (pk b3.out))⟩; have m4 : q0f (t2.heap[b9]? = some (.cells #[.string j9, .string k0, .slice n1 h6.length n4, .int .i64 k1, .slice n2 h7.length n5] 27 (0, 0))) := ⟨(by rw [hw]; exact (pk b5.out))⟩; have m5 : q0f (t2.heap[c8]? = some (.cells #[.string k2, .string k4, .slice l4 h8.length l8, .int .i64 k5, .slice l5 h9.length l9] 27 (0, 0))) := ⟨(by rw [hw]; exact (pk c6.out))⟩; have m6 : q0f (t2.heap[c9]? = some (.cells #[.string o1, .string o2, .slice k7 m9.length k9, .int .i64 o3, .slice k8 n0.length l1] 27 (0, 0))) := ⟨(by rw [hw]; exact (pk d1.out))⟩; have m7 : q0f (t2.heap[d0]? = some (.cells #[.string i5, .string i6, .slice B2 i7.length D0, .int .i64 i8, .slice B3 i9.length D1] 27 (0, 0))) := ⟨(by rw [hw]; exact (pP d5.out))⟩; have m8 : q0f (Below w.heap.size w t2) := ⟨(by rw [hw]; exact (pB HB.out))⟩; clear hw a4 a5 a7 a8 a9 b0 b1 b2 b7 b8 d6 d7 a6 b3 b5 c6 d1 d5 HB; have a4 := p4; have a5 := p5; have a7 := p6; have a8 := p7; have a9 := p8; have b0 := p9; have b1 := q0; have b2 := q2; have b7 := q3; have b8 := q4; have d6 := m0; have d7 := m1; have a6 := m2; have b3 := m3; have b5 := m4; have c6 := m5; have d1 := m6; have d5 := m7; have HB := m8; clear p4 p5 p6 p7 p8 p9 q0 q2 q3 q4 m0 m1 m2 m3 m4 m5 m6 m7 m8; have T8 := y5 a6) | ((with_reducible refine gC 24 ?_); refine gL 143 Try.func24 #[.agg #[.string e2, .string e3, .slice g0 d3.length g2, .int .i64 d2, .slice g1 d4.length g3], .int .i64 ji9] ?_; (with_reducible refine (Gd.calls k3 e2 e3 (fun k_ => (k_ ≠ b4 ∧ (k_ ≠ b6 ∧ (k_ ≠ b9 ∧ (k_ ≠ c8 ∧ (k_ ≠ c9 ∧ k_ ≠ d0)))))) _ _ d3 d2 (fun k_ => (k_ ≠ b4 ∧ (k_ ≠ b6 ∧ (k_ ≠ b9 ∧ (k_ ≠ c8 ∧ (k_ ≠ c9 ∧ k_ ≠ d0)))))) _ _ d4 ji9 x4 x5 x6 x7 x8 I0 _ ?side1 ?side2 K3.out).mono ?_); (case side1 => exact a4.out); (case side2 => exact a5.out); rintro e EI ⟨CT, CU, rfl, g6, g7, hb⟩; refine ⟨_, rfl, ?_⟩; replace a4 := vB a4 hb; replace a5 := vB a5 hb; replace a7 := vB a7 hb; replace a8 := vB a8 hb; replace a9 := vB a9 hb; replace b0 := vB b0 hb; replace b1 := vB b1 hb; replace b2 := vB b2 hb; replace b7 := vB b7 hb; replace b8 := vB b8 hb; replace d6 := vB d6 hb; replace d7 := vB d7 hb; have o9 := vL (ok' := fun k_ => k_ ≠ b4 ∧ k_ ≠ b6 ∧ k_ ≠ b9 ∧ k_ ≠ c8 ∧ k_ ≠ c9 ∧ k_ ≠ d0) HB g6 (fun k_ d8 => ⟨Or.elim d8 (fun a0 => Or.elim a0 (fun a0 => a0.1) (fun a0 => a0.1)) (fB a6), Or.elim d8 (fun a0 => Or.elim a0 (fun a0 => a0.2.1) (fun a0 => a0.2.1)) (fB b3), Or.elim d8 (fun a0 => Or.elim a0 (fun a0 => a0.2.2.1) (fun a0 => a0.2.2.1)) (fB b5), Or.elim d8 (fun a0 => Or.elim a0 (fun a0 => a0.2.2.2.1) (fun a0 => a0.2.2.2.1)) (fB c6), Or.elim d8 (fun a0 => Or.elim a0 (fun a0 => a0.2.2.2.2.1) (fun a0 => a0.2.2.2.2.1)) (fB d1), Or.elim d8 (fun a0 => Or.elim a0 (fun a0 => a0.2.2.2.2.2) (fun a0 => a0.2.2.2.2.2)) (fB d5)⟩); have p0 := vL (ok' := fun k_ => k_ ≠ b4 ∧ k_ ≠ b6 ∧ k_ ≠ b9 ∧ k_ ≠ c8 ∧ k_ ≠ c9 ∧ k_ ≠ d0) HB g7 (fun k_ d8 => ⟨Or.elim d8 (fun a0 => Or.elim a0 (fun a0 => a0.1) (fun a0 => a0.1)) (fB a6), Or.elim d8 (fun a0 => Or.elim a0 (fun a0 => a0.2.1) (fun a0 => a0.2.1)) (fB b3), Or.elim d8 (fun a0 => Or.elim a0 (fun a0 => a0.2.2.1) (fun a0 => a0.2.2.1)) (fB b5), Or.elim d8 (fun a0 => Or.elim a0 (fun a0 => a0.2.2.2.1) (fun a0 => a0.2.2.2.1)) (fB c6), Or.elim d8 (fun a0 => Or.elim a0 (fun a0 => a0.2.2.2.2.1) (fun a0 => a0.2.2.2.2.1)) (fB d1), Or.elim d8 (fun a0 => Or.elim a0 (fun a0 => a0.2.2.2.2.2) (fun a0 => a0.2.2.2.2.2)) (fB d5)⟩); replace a6 := kB a6 hb; replace b3 := kB b3 hb; replace b5 := kB b5 hb; replace c6 := kB c6 hb; replace d1 := kB d1 hb; replace d5 := kB d5 hb; replace HB := bS HB hb; (try clear hb); (try clear g6); (try clear g7); have T9 := y5 d5; obtain ⟨L3, N2, P6⟩ := Kd.V_slice o9.out; subst P6; obtain ⟨L4, N3, P7⟩ := Kd.V_slice p0.out; subst P7) | (go_at_call 15; (with_reducible refine (Fa.calls k3 x4 x5 _ _ x6 x7 _ _ x8 true _ ?side1 ?side2 ?side3 ?side4 Ai.out).mono ?_); (case side1 => exact (Kd.V_reads' (pV o9.out)).2.2); (case side2 => exact (Kd.V_reads' o9.out).2.1); (case side3 => exact (Kd.V_reads' (pV p0.out)).2.2); (case side4 => exact (Kd.V_reads' p0.out).2.1); rintro e EJ ⟨rfl, hb⟩; replace a4 := vB a4 hb; replace a5 := vB a5 hb; replace a7 := vB a7 hb; replace a8 := vB a8 hb; replace a9 := vB a9 hb; replace b0 := vB b0 hb; replace b1 := vB b1 hb; replace b2 := vB b2 hb; replace b7 := vB b7 hb; replace b8 := vB b8 hb; replace d6 := vB d6 hb; replace d7 := vB d7 hb; replace o9 := vB o9 hb; replace p0 := vB p0 hb; replace a6 := kB a6 hb; replace b3 := kB b3 hb; replace b5 := kB b5 hb; replace c6 := kB c6 hb; replace d1 := kB d1 hb; replace d5 := am (q0b (g := d0) (o := .cells #[.string x4, .string x5, .slice L3 x6.length N2, .int .i64 x7, .slice L4 x8.length N3] 27 (0, 0)) (pP d5.out) hb); replace HB := bS HB hb; (try clear hb); have W0 := y5 a6))
             go_roundg k3
             case measure => have := k6.out; have := i0.out; have := s5.out; omega
             case rel => exact ⟨(wrap64 (g4 + 1)), el, H', ⟨by have := k6.out; have := i0.out; have := s5.out; omega⟩, (vM a4), (vM a5), (vM a7), (vM a8), (vM a9), (vM b0), (vM b1), (vM b2), (vM b7), (vM b8), ⟨pk a6.out⟩, ⟨pk b3.out⟩, ⟨pk b5.out⟩, ⟨pk c6.out⟩, ⟨pk d1.out⟩, ⟨pB HB.out⟩⟩
            rw [if_neg v7] at H
            exact absurd H (by simp)
           replace v6 := Bool.eq_false_iff.mpr v6
           subst v6
           rw [if_neg (show ¬ (false = true) by decide)] at H
           try dsimp only at H
           exact absurd H (by simp)
          rw [if_neg u9] at H
          obtain ⟨H4, H5⟩ := qf u9
          have H' := am H
          clear H
          have Cb := nn f7
          have Cc := nn f8
          have Cd := nn f9
          have Ce := nn g5
          have W1 := y5 a6
          go_wp2_with (first | ((with_reducible refine gC 19 ?_); refine gL 116 Try.func19 #[.agg #[.string e2, .string e3, .slice g0 d3.length g2, .int .i64 d2, .slice g1 d4.length g3], .int .i64 ji9, .int .i64 a3] ?_; (with_reducible refine (F9.calls k3 e2 e3 (fun k_ => (k_ ≠ b4 ∧ (k_ ≠ b6 ∧ (k_ ≠ b9 ∧ (k_ ≠ c8 ∧ k_ ≠ c9))))) _ _ d3 d2 (fun k_ => (k_ ≠ b4 ∧ (k_ ≠ b6 ∧ (k_ ≠ b9 ∧ (k_ ≠ c8 ∧ k_ ≠ c9))))) _ _ d4 ji9 a3 i5 i6 i7 i8 i9 r6 _ ?side1 ?side2 r8.out).mono ?_); (case side1 => exact a4.out); (case side2 => exact a5.out); rintro e EK ⟨s6, s7, rfl, g6, g7, hb⟩; refine ⟨_, rfl, ?_⟩; replace a4 := vB a4 hb; replace a5 := vB a5 hb; replace a7 := vB a7 hb; replace a8 := vB a8 hb; replace a9 := vB a9 hb; replace b0 := vB b0 hb; replace b1 := vB b1 hb; replace b2 := vB b2 hb; replace b7 := vB b7 hb; replace b8 := vB b8 hb; have d6 := vL (ok' := fun k_ => k_ ≠ b4 ∧ k_ ≠ b6 ∧ k_ ≠ b9 ∧ k_ ≠ c8 ∧ k_ ≠ c9) HB g6 (fun k_ d8 => ⟨Or.elim d8 (fun a0 => Or.elim a0 (fun a0 => a0.1) (fun a0 => a0.1)) (fB a6), Or.elim d8 (fun a0 => Or.elim a0 (fun a0 => a0.2.1) (fun a0 => a0.2.1)) (fB b3), Or.elim d8 (fun a0 => Or.elim a0 (fun a0 => a0.2.2.1) (fun a0 => a0.2.2.1)) (fB b5), Or.elim d8 (fun a0 => Or.elim a0 (fun a0 => a0.2.2.2.1) (fun a0 => a0.2.2.2.1)) (fB c6), Or.elim d8 (fun a0 => Or.elim a0 (fun a0 => a0.2.2.2.2) (fun a0 => a0.2.2.2.2)) (fB d1)⟩); have d7 := vL (ok' := fun k_ => k_ ≠ b4 ∧ k_ ≠ b6 ∧ k_ ≠ b9 ∧ k_ ≠ c8 ∧ k_ ≠ c9) HB g7 (fun k_ d8 => ⟨Or.elim d8 (fun a0 => Or.elim a0 (fun a0 => a0.1) (fun a0 => a0.1)) (fB a6), Or.elim d8 (fun a0 => Or.elim a0 (fun a0 => a0.2.1) (fun a0 => a0.2.1)) (fB b3), Or.elim d8 (fun a0 => Or.elim a0 (fun a0 => a0.2.2.1) (fun a0 => a0.2.2.1)) (fB b5), Or.elim d8 (fun a0 => Or.elim a0 (fun a0 => a0.2.2.2.1) (fun a0 => a0.2.2.2.1)) (fB c6), Or.elim d8 (fun a0 => Or.elim a0 (fun a0 => a0.2.2.2.2) (fun a0 => a0.2.2.2.2)) (fB d1)⟩); replace a6 := kB a6 hb; replace b3 := kB b3 hb; replace b5 := kB b5 hb; replace c6 := kB c6 hb; replace d1 := kB d1 hb; replace HB := bS HB hb; (try clear hb); (try clear g6); (try clear g7)) | ((with_reducible refine gD 19 ?_); refine bz 19 #[.string (⟨#[]⟩ : ByteArray), .string (⟨#[]⟩ : ByteArray), .slice none 0 0, .int .i64 0, .slice none 0 0] 27 HB ?_; clear HB; intro d0 hg Da hb d5 o4 HB; replace a4 := vE a4 hg hb; replace a5 := vE a5 hg hb; replace a7 := vE a7 hg hb; replace a8 := vE a8 hg hb; replace a9 := vE a9 hg hb; replace b0 := vE b0 hg hb; replace b1 := vE b1 hg hb; replace b2 := vE b2 hg hb; replace b7 := vE b7 hg hb; replace b8 := vE b8 hg hb; replace d6 := vE d6 hg hb; replace d7 := vE d7 hg hb; have h0 := nL hg a6; have f1 := nG hg a6; replace a6 := kB a6 hb; have h2 := nL hg b3; have f2 := nG hg b3; replace b3 := kB b3 hb; have h3 := nL hg b5; have f3 := nG hg b5; replace b5 := kB b5 hb; have h4 := nL hg c6; have f4 := nG hg c6; replace c6 := kB c6 hb; have h5 := nL hg d1; have f5 := nG hg d1; replace d1 := kB d1 hb; clear hb hg; have Cf := nn f1; have Cg := nn f2; have Ch := nn f3; have Ci := nn f4; have Cj := nn f5; have W2 := y5 d5; obtain ⟨B4, D2, P8⟩ := Kd.V_slice d6.out; subst P8; obtain ⟨B5, D3, P9⟩ := Kd.V_slice d7.out; subst P9) | ((with_reducible refine q2g (t := 27) (p := 19) rfl ?_); refine q1y (t := 27) (p := 19) (v := ?vo_w304) (w1 := (((((Da.setCell ⟨d0, 0, none⟩ (.string i5)).setCell ⟨d0, 1, none⟩ (.string i6)).setCell ⟨d0, 2, none⟩ (.slice B4 i7.length D2)).setCell ⟨d0, 3, none⟩ (.int .i64 i8)).setCell ⟨d0, 4, none⟩ (.slice B5 i9.length D3))) ?hg ?ho ?hn ?hr ?_; (case ho => rfl); (case hg => rfl); (case hn => rfl); (case hr => first | (go_simp; done) | (go_simp; rfl)); intro t3 hw; have p4 := vW (ok' := fun k_ => k_ ≠ b4 ∧ k_ ≠ b6 ∧ k_ ≠ b9 ∧ k_ ≠ c8 ∧ k_ ≠ c9 ∧ k_ ≠ d0) hw a4; have p5 := vW (ok' := fun k_ => k_ ≠ b4 ∧ k_ ≠ b6 ∧ k_ ≠ b9 ∧ k_ ≠ c8 ∧ k_ ≠ c9 ∧ k_ ≠ d0) hw a5; have p6 := vW (ok' := fun k_ => k_ ≠ b4 ∧ k_ ≠ b6 ∧ k_ ≠ b9 ∧ k_ ≠ c8 ∧ k_ ≠ c9 ∧ k_ ≠ d0) hw a7; have p7 := vW (ok' := fun k_ => k_ ≠ b4 ∧ k_ ≠ b6 ∧ k_ ≠ b9 ∧ k_ ≠ c8 ∧ k_ ≠ c9 ∧ k_ ≠ d0) hw a8; have p8 := vW (ok' := fun k_ => k_ ≠ b4 ∧ k_ ≠ b6 ∧ k_ ≠ b9 ∧ k_ ≠ c8 ∧ k_ ≠ c9 ∧ k_ ≠ d0) hw a9; have p9 := vW (ok' := fun k_ => k_ ≠ b4 ∧ k_ ≠ b6 ∧ k_ ≠ b9 ∧ k_ ≠ c8 ∧ k_ ≠ c9 ∧ k_ ≠ d0) hw b0; have q0 := vW (ok' := fun k_ => k_ ≠ b4 ∧ k_ ≠ b6 ∧ k_ ≠ b9 ∧ k_ ≠ c8 ∧ k_ ≠ c9 ∧ k_ ≠ d0) hw b1; have q2 := vW (ok' := fun k_ => k_ ≠ b4 ∧ k_ ≠ b6 ∧ k_ ≠ b9 ∧ k_ ≠ c8 ∧ k_ ≠ c9 ∧ k_ ≠ d0) hw b2; have q3 := vW (ok' := fun k_ => k_ ≠ b4 ∧ k_ ≠ b6 ∧ k_ ≠ b9 ∧ k_ ≠ c8 ∧ k_ ≠ c9 ∧ k_ ≠ d0) hw b7; have q4 := vW (ok' := fun k_ => k_ ≠ b4 ∧ k_ ≠ b6 ∧ k_ ≠ b9 ∧ k_ ≠ c8 ∧ k_ ≠ c9 ∧ k_ ≠ d0) hw b8; have m0 := vW (ok' := fun k_ => k_ ≠ b4 ∧ k_ ≠ b6 ∧ k_ ≠ b9 ∧ k_ ≠ c8 ∧ k_ ≠ c9 ∧ k_ ≠ d0) hw d6; have m1 := vW (ok' := fun k_ => k_ ≠ b4 ∧ k_ ≠ b6 ∧ k_ ≠ b9 ∧ k_ ≠ c8 ∧ k_ ≠ c9 ∧ k_ ≠ d0) hw d7; have m2 : q0f (t3.heap[b4]? = some (.cells #[.string e2, .string e3, .slice g0 d3.length g2, .int .i64 d2, .slice g1 d4.length g3] 27 (0, 0))) := ⟨(by rw [hw]; exact (pk a6.out))⟩; have m3 : q0f (t3.heap[b6]? = some (.cells #[.string j6, .string j7, .slice l2 g8.length l6, .int .i64 j8, .slice l3 g9.length l7] 27 (0, 0))) := ⟨(by rw [hw]; exact (pk b3.out))⟩; have m4 : q0f (t3.heap[b9]? = some (.cells #[.string j9, .string k0, .slice n1 h6.length n4, .int .i64 k1, .slice n2 h7.length n5] 27 (0, 0))) := ⟨(by rw [hw]; exact (pk b5.out))⟩; have m5 : q0f (t3.heap[c8]? = some (.cells #[.string k2, .string k4, .slice l4 h8.length l8, .int .i64 k5, .slice l5 h9.length l9] 27 (0, 0))) := ⟨(by rw [hw]; exact (pk c6.out))⟩; have m6 : q0f (t3.heap[c9]? = some (.cells #[.string o1, .string o2, .slice k7 m9.length k9, .int .i64 o3, .slice k8 n0.length l1] 27 (0, 0))) := ⟨(by rw [hw]; exact (pk d1.out))⟩; have m7 : q0f (t3.heap[d0]? = some (.cells #[.string i5, .string i6, .slice B4 i7.length D2, .int .i64 i8, .slice B5 i9.length D3] 27 (0, 0))) := ⟨(by rw [hw]; exact (pP d5.out))⟩; have m8 : q0f (Below w.heap.size w t3) := ⟨(by rw [hw]; exact (pB HB.out))⟩; clear hw a4 a5 a7 a8 a9 b0 b1 b2 b7 b8 d6 d7 a6 b3 b5 c6 d1 d5 HB; have a4 := p4; have a5 := p5; have a7 := p6; have a8 := p7; have a9 := p8; have b0 := p9; have b1 := q0; have b2 := q2; have b7 := q3; have b8 := q4; have d6 := m0; have d7 := m1; have a6 := m2; have b3 := m3; have b5 := m4; have c6 := m5; have d1 := m6; have d5 := m7; have HB := m8; clear p4 p5 p6 p7 p8 p9 q0 q2 q3 q4 m0 m1 m2 m3 m4 m5 m6 m7 m8; have W3 := y5 a6) | ((with_reducible refine gC 24 ?_); refine gL 143 Try.func24 #[.agg #[.string e2, .string e3, .slice g0 d3.length g2, .int .i64 d2, .slice g1 d4.length g3], .int .i64 ji9] ?_; (with_reducible refine (Gd.calls k3 e2 e3 (fun k_ => (k_ ≠ b4 ∧ (k_ ≠ b6 ∧ (k_ ≠ b9 ∧ (k_ ≠ c8 ∧ (k_ ≠ c9 ∧ k_ ≠ d0)))))) _ _ d3 d2 (fun k_ => (k_ ≠ b4 ∧ (k_ ≠ b6 ∧ (k_ ≠ b9 ∧ (k_ ≠ c8 ∧ (k_ ≠ c9 ∧ k_ ≠ d0)))))) _ _ d4 ji9 x4 x5 x6 x7 x8 I0 _ ?side1 ?side2 K3.out).mono ?_); (case side1 => exact a4.out); (case side2 => exact a5.out); rintro e EL ⟨CT, CU, rfl, g6, g7, hb⟩; refine ⟨_, rfl, ?_⟩; replace a4 := vB a4 hb; replace a5 := vB a5 hb; replace a7 := vB a7 hb; replace a8 := vB a8 hb; replace a9 := vB a9 hb; replace b0 := vB b0 hb; replace b1 := vB b1 hb; replace b2 := vB b2 hb; replace b7 := vB b7 hb; replace b8 := vB b8 hb; replace d6 := vB d6 hb; replace d7 := vB d7 hb; have o9 := vL (ok' := fun k_ => k_ ≠ b4 ∧ k_ ≠ b6 ∧ k_ ≠ b9 ∧ k_ ≠ c8 ∧ k_ ≠ c9 ∧ k_ ≠ d0) HB g6 (fun k_ d8 => ⟨Or.elim d8 (fun a0 => Or.elim a0 (fun a0 => a0.1) (fun a0 => a0.1)) (fB a6), Or.elim d8 (fun a0 => Or.elim a0 (fun a0 => a0.2.1) (fun a0 => a0.2.1)) (fB b3), Or.elim d8 (fun a0 => Or.elim a0 (fun a0 => a0.2.2.1) (fun a0 => a0.2.2.1)) (fB b5), Or.elim d8 (fun a0 => Or.elim a0 (fun a0 => a0.2.2.2.1) (fun a0 => a0.2.2.2.1)) (fB c6), Or.elim d8 (fun a0 => Or.elim a0 (fun a0 => a0.2.2.2.2.1) (fun a0 => a0.2.2.2.2.1)) (fB d1), Or.elim d8 (fun a0 => Or.elim a0 (fun a0 => a0.2.2.2.2.2) (fun a0 => a0.2.2.2.2.2)) (fB d5)⟩); have p0 := vL (ok' := fun k_ => k_ ≠ b4 ∧ k_ ≠ b6 ∧ k_ ≠ b9 ∧ k_ ≠ c8 ∧ k_ ≠ c9 ∧ k_ ≠ d0) HB g7 (fun k_ d8 => ⟨Or.elim d8 (fun a0 => Or.elim a0 (fun a0 => a0.1) (fun a0 => a0.1)) (fB a6), Or.elim d8 (fun a0 => Or.elim a0 (fun a0 => a0.2.1) (fun a0 => a0.2.1)) (fB b3), Or.elim d8 (fun a0 => Or.elim a0 (fun a0 => a0.2.2.1) (fun a0 => a0.2.2.1)) (fB b5), Or.elim d8 (fun a0 => Or.elim a0 (fun a0 => a0.2.2.2.1) (fun a0 => a0.2.2.2.1)) (fB c6), Or.elim d8 (fun a0 => Or.elim a0 (fun a0 => a0.2.2.2.2.1) (fun a0 => a0.2.2.2.2.1)) (fB d1), Or.elim d8 (fun a0 => Or.elim a0 (fun a0 => a0.2.2.2.2.2) (fun a0 => a0.2.2.2.2.2)) (fB d5)⟩); replace a6 := kB a6 hb; replace b3 := kB b3 hb; replace b5 := kB b5 hb; replace c6 := kB c6 hb; replace d1 := kB d1 hb; replace d5 := kB d5 hb; replace HB := bS HB hb; (try clear hb); (try clear g6); (try clear g7); have W4 := y5 d5; obtain ⟨Dh, Dt, Q0⟩ := Kd.V_slice o9.out; subst Q0; obtain ⟨Di, Du, Q1⟩ := Kd.V_slice p0.out; subst Q1))
          go_roundg k3
          case measure => have := k6.out; have := i0.out; have := s5.out; omega
          case rel => exact ⟨(wrap64 (g4 + 1)), el, H', ⟨by have := k6.out; have := i0.out; have := s5.out; omega⟩, (vM a4), (vM a5), (vM a7), (vM a8), (vM a9), (vM b0), (vM b1), (vM b2), (vM b7), (vM b8), ⟨pk a6.out⟩, ⟨pk b3.out⟩, ⟨pk b5.out⟩, ⟨pk c6.out⟩, ⟨pk d1.out⟩, ⟨pB HB.out⟩⟩
         rw [if_neg u8] at H
         obtain ⟨H2, H3⟩ := qf u8
         by_cases v0 : r6 = 0
         ·
          rw [if_pos v0] at H
          obtain ⟨H6, H7⟩ := qt v0
          clear v0
          replace H := Option.bind_eq_some_iff.mp H
          obtain ⟨CK, z8, H⟩ := H
          try dsimp only at H
          have Aj := am z8
          clear z8
          by_cases v8 : CK = true
          ·
           subst v8
           rw [if_pos rfl] at H
           try dsimp only at H
           by_cases v9 : d2 = 0
           ·
            rw [if_pos v9] at H
            obtain ⟨At, Au⟩ := qt v9
            clear v9
            have H' := am H
            clear H
            have Ck := nn f7
            have Cl := nn f8
            have Cm := nn f9
            have Cn := nn g5
            have W5 := y5 a6
            go_wp2_with (first | ((with_reducible refine gC 19 ?_); refine gL 116 Try.func19 #[.agg #[.string e2, .string e3, .slice g0 d3.length g2, .int .i64 d2, .slice g1 d4.length g3], .int .i64 ji9, .int .i64 a3] ?_; (with_reducible refine (F9.calls k3 e2 e3 (fun k_ => (k_ ≠ b4 ∧ (k_ ≠ b6 ∧ (k_ ≠ b9 ∧ (k_ ≠ c8 ∧ k_ ≠ c9))))) _ _ d3 d2 (fun k_ => (k_ ≠ b4 ∧ (k_ ≠ b6 ∧ (k_ ≠ b9 ∧ (k_ ≠ c8 ∧ k_ ≠ c9))))) _ _ d4 ji9 a3 i5 i6 i7 i8 i9 r6 _ ?side1 ?side2 r8.out).mono ?_); (case side1 => exact a4.out); (case side2 => exact a5.out); rintro e EM ⟨s6, s7, rfl, g6, g7, hb⟩; refine ⟨_, rfl, ?_⟩; replace a4 := vB a4 hb; replace a5 := vB a5 hb; replace a7 := vB a7 hb; replace a8 := vB a8 hb; replace a9 := vB a9 hb; replace b0 := vB b0 hb; replace b1 := vB b1 hb; replace b2 := vB b2 hb; replace b7 := vB b7 hb; replace b8 := vB b8 hb; have d6 := vL (ok' := fun k_ => k_ ≠ b4 ∧ k_ ≠ b6 ∧ k_ ≠ b9 ∧ k_ ≠ c8 ∧ k_ ≠ c9) HB g6 (fun k_ d8 => ⟨Or.elim d8 (fun a0 => Or.elim a0 (fun a0 => a0.1) (fun a0 => a0.1)) (fB a6), Or.elim d8 (fun a0 => Or.elim a0 (fun a0 => a0.2.1) (fun a0 => a0.2.1)) (fB b3), Or.elim d8 (fun a0 => Or.elim a0 (fun a0 => a0.2.2.1) (fun a0 => a0.2.2.1)) (fB b5), Or.elim d8 (fun a0 => Or.elim a0 (fun a0 => a0.2.2.2.1) (fun a0 => a0.2.2.2.1)) (fB c6), Or.elim d8 (fun a0 => Or.elim a0 (fun a0 => a0.2.2.2.2) (fun a0 => a0.2.2.2.2)) (fB d1)⟩); have d7 := vL (ok' := fun k_ => k_ ≠ b4 ∧ k_ ≠ b6 ∧ k_ ≠ b9 ∧ k_ ≠ c8 ∧ k_ ≠ c9) HB g7 (fun k_ d8 => ⟨Or.elim d8 (fun a0 => Or.elim a0 (fun a0 => a0.1) (fun a0 => a0.1)) (fB a6), Or.elim d8 (fun a0 => Or.elim a0 (fun a0 => a0.2.1) (fun a0 => a0.2.1)) (fB b3), Or.elim d8 (fun a0 => Or.elim a0 (fun a0 => a0.2.2.1) (fun a0 => a0.2.2.1)) (fB b5), Or.elim d8 (fun a0 => Or.elim a0 (fun a0 => a0.2.2.2.1) (fun a0 => a0.2.2.2.1)) (fB c6), Or.elim d8 (fun a0 => Or.elim a0 (fun a0 => a0.2.2.2.2) (fun a0 => a0.2.2.2.2)) (fB d1)⟩); replace a6 := kB a6 hb; replace b3 := kB b3 hb; replace b5 := kB b5 hb; replace c6 := kB c6 hb; replace d1 := kB d1 hb; replace HB := bS HB hb; (try clear hb); (try clear g6); (try clear g7)) | ((with_reducible refine gD 19 ?_); refine bz 19 #[.string (⟨#[]⟩ : ByteArray), .string (⟨#[]⟩ : ByteArray), .slice none 0 0, .int .i64 0, .slice none 0 0] 27 HB ?_; clear HB; intro d0 hg EN hb d5 o4 HB; replace a4 := vE a4 hg hb; replace a5 := vE a5 hg hb; replace a7 := vE a7 hg hb; replace a8 := vE a8 hg hb; replace a9 := vE a9 hg hb; replace b0 := vE b0 hg hb; replace b1 := vE b1 hg hb; replace b2 := vE b2 hg hb; replace b7 := vE b7 hg hb; replace b8 := vE b8 hg hb; replace d6 := vE d6 hg hb; replace d7 := vE d7 hg hb; have h0 := nL hg a6; have f1 := nG hg a6; replace a6 := kB a6 hb; have h2 := nL hg b3; have f2 := nG hg b3; replace b3 := kB b3 hb; have h3 := nL hg b5; have f3 := nG hg b5; replace b5 := kB b5 hb; have h4 := nL hg c6; have f4 := nG hg c6; replace c6 := kB c6 hb; have h5 := nL hg d1; have f5 := nG hg d1; replace d1 := kB d1 hb; clear hb hg; have Co := nn f1; have Cp := nn f2; have Cq := nn f3; have Cr := nn f4; have Cs := nn f5; have W6 := y5 d5; obtain ⟨L5, N4, Q2⟩ := Kd.V_slice d6.out; subst Q2; obtain ⟨L6, N5, Q3⟩ := Kd.V_slice d7.out; subst Q3) | (go_at_call 15; (with_reducible refine (Fa.calls k3 i5 i6 _ _ i7 i8 _ _ i9 true _ ?side1 ?side2 ?side3 ?side4 Aj.out).mono ?_); (case side1 => exact (Kd.V_reads' (pV d6.out)).2.2); (case side2 => exact (Kd.V_reads' d6.out).2.1); (case side3 => exact (Kd.V_reads' (pV d7.out)).2.2); (case side4 => exact (Kd.V_reads' d7.out).2.1); rintro e EO ⟨rfl, hb⟩; replace a4 := vB a4 hb; replace a5 := vB a5 hb; replace a7 := vB a7 hb; replace a8 := vB a8 hb; replace a9 := vB a9 hb; replace b0 := vB b0 hb; replace b1 := vB b1 hb; replace b2 := vB b2 hb; replace b7 := vB b7 hb; replace b8 := vB b8 hb; replace d6 := vB d6 hb; replace d7 := vB d7 hb; replace a6 := kB a6 hb; replace b3 := kB b3 hb; replace b5 := kB b5 hb; replace c6 := kB c6 hb; replace d1 := kB d1 hb; replace d5 := am (q0b (g := d0) (o := .cells #[.string i5, .string i6, .slice L5 i7.length N4, .int .i64 i8, .slice L6 i9.length N5] 27 (0, 0)) (pP d5.out) hb); replace HB := bS HB hb; (try clear hb); have W7 := y5 a6))
            go_roundg k3
            case measure => have := k6.out; have := i0.out; have := s5.out; omega
            case rel => exact ⟨(wrap64 (g4 + 1)), el, H', ⟨by have := k6.out; have := i0.out; have := s5.out; omega⟩, (vM a4), (vM a5), (vM a7), (vM a8), (vM a9), (vM b0), (vM b1), (vM b2), (vM b7), (vM b8), ⟨pk a6.out⟩, ⟨pk b3.out⟩, ⟨pk b5.out⟩, ⟨pk c6.out⟩, ⟨pk d1.out⟩, ⟨pB HB.out⟩⟩
           rw [if_neg v9] at H
           exact absurd H (by simp)
          replace v8 := Bool.eq_false_iff.mpr v8
          subst v8
          rw [if_neg (show ¬ (false = true) by decide)] at H
          try dsimp only at H
          exact absurd H (by simp)
         rw [if_neg v0] at H
         obtain ⟨H6, H7⟩ := qf v0
         have H' := am H
         clear H
         have Ct := nn f7
         have Cu := nn f8
         have Cv := nn f9
         have Cw := nn g5
         have W8 := y5 a6
         go_wp2_with (first | ((with_reducible refine gC 19 ?_); refine gL 116 Try.func19 #[.agg #[.string e2, .string e3, .slice g0 d3.length g2, .int .i64 d2, .slice g1 d4.length g3], .int .i64 ji9, .int .i64 a3] ?_; (with_reducible refine (F9.calls k3 e2 e3 (fun k_ => (k_ ≠ b4 ∧ (k_ ≠ b6 ∧ (k_ ≠ b9 ∧ (k_ ≠ c8 ∧ k_ ≠ c9))))) _ _ d3 d2 (fun k_ => (k_ ≠ b4 ∧ (k_ ≠ b6 ∧ (k_ ≠ b9 ∧ (k_ ≠ c8 ∧ k_ ≠ c9))))) _ _ d4 ji9 a3 i5 i6 i7 i8 i9 r6 _ ?side1 ?side2 r8.out).mono ?_); (case side1 => exact a4.out); (case side2 => exact a5.out); rintro e EQ ⟨s6, s7, rfl, g6, g7, hb⟩; refine ⟨_, rfl, ?_⟩; replace a4 := vB a4 hb; replace a5 := vB a5 hb; replace a7 := vB a7 hb; replace a8 := vB a8 hb; replace a9 := vB a9 hb; replace b0 := vB b0 hb; replace b1 := vB b1 hb; replace b2 := vB b2 hb; replace b7 := vB b7 hb; replace b8 := vB b8 hb; have d6 := vL (ok' := fun k_ => k_ ≠ b4 ∧ k_ ≠ b6 ∧ k_ ≠ b9 ∧ k_ ≠ c8 ∧ k_ ≠ c9) HB g6 (fun k_ d8 => ⟨Or.elim d8 (fun a0 => Or.elim a0 (fun a0 => a0.1) (fun a0 => a0.1)) (fB a6), Or.elim d8 (fun a0 => Or.elim a0 (fun a0 => a0.2.1) (fun a0 => a0.2.1)) (fB b3), Or.elim d8 (fun a0 => Or.elim a0 (fun a0 => a0.2.2.1) (fun a0 => a0.2.2.1)) (fB b5), Or.elim d8 (fun a0 => Or.elim a0 (fun a0 => a0.2.2.2.1) (fun a0 => a0.2.2.2.1)) (fB c6), Or.elim d8 (fun a0 => Or.elim a0 (fun a0 => a0.2.2.2.2) (fun a0 => a0.2.2.2.2)) (fB d1)⟩); have d7 := vL (ok' := fun k_ => k_ ≠ b4 ∧ k_ ≠ b6 ∧ k_ ≠ b9 ∧ k_ ≠ c8 ∧ k_ ≠ c9) HB g7 (fun k_ d8 => ⟨Or.elim d8 (fun a0 => Or.elim a0 (fun a0 => a0.1) (fun a0 => a0.1)) (fB a6), Or.elim d8 (fun a0 => Or.elim a0 (fun a0 => a0.2.1) (fun a0 => a0.2.1)) (fB b3), Or.elim d8 (fun a0 => Or.elim a0 (fun a0 => a0.2.2.1) (fun a0 => a0.2.2.1)) (fB b5), Or.elim d8 (fun a0 => Or.elim a0 (fun a0 => a0.2.2.2.1) (fun a0 => a0.2.2.2.1)) (fB c6), Or.elim d8 (fun a0 => Or.elim a0 (fun a0 => a0.2.2.2.2) (fun a0 => a0.2.2.2.2)) (fB d1)⟩); replace a6 := kB a6 hb; replace b3 := kB b3 hb; replace b5 := kB b5 hb; replace c6 := kB c6 hb; replace d1 := kB d1 hb; replace HB := bS HB hb; (try clear hb); (try clear g6); (try clear g7)) | ((with_reducible refine gD 19 ?_); refine bz 19 #[.string (⟨#[]⟩ : ByteArray), .string (⟨#[]⟩ : ByteArray), .slice none 0 0, .int .i64 0, .slice none 0 0] 27 HB ?_; clear HB; intro d0 hg ER hb d5 o4 HB; replace a4 := vE a4 hg hb; replace a5 := vE a5 hg hb; replace a7 := vE a7 hg hb; replace a8 := vE a8 hg hb; replace a9 := vE a9 hg hb; replace b0 := vE b0 hg hb; replace b1 := vE b1 hg hb; replace b2 := vE b2 hg hb; replace b7 := vE b7 hg hb; replace b8 := vE b8 hg hb; replace d6 := vE d6 hg hb; replace d7 := vE d7 hg hb; have h0 := nL hg a6; have f1 := nG hg a6; replace a6 := kB a6 hb; have h2 := nL hg b3; have f2 := nG hg b3; replace b3 := kB b3 hb; have h3 := nL hg b5; have f3 := nG hg b5; replace b5 := kB b5 hb; have h4 := nL hg c6; have f4 := nG hg c6; replace c6 := kB c6 hb; have h5 := nL hg d1; have f5 := nG hg d1; replace d1 := kB d1 hb; clear hb hg; have Cx := nn f1; have Cy := nn f2; have Cz := nn f3; have CA := nn f4; have CB := nn f5; have W9 := y5 d5; obtain ⟨Dj, Dv, Q4⟩ := Kd.V_slice d6.out; subst Q4; obtain ⟨Dk, Dw, Q5⟩ := Kd.V_slice d7.out; subst Q5))
         go_roundg k3
         case measure => have := k6.out; have := i0.out; have := s5.out; omega
         case rel => exact ⟨(wrap64 (g4 + 1)), el, H', ⟨by have := k6.out; have := i0.out; have := s5.out; omega⟩, (vM a4), (vM a5), (vM a7), (vM a8), (vM a9), (vM b0), (vM b1), (vM b2), (vM b7), (vM b8), ⟨pk a6.out⟩, ⟨pk b3.out⟩, ⟨pk b5.out⟩, ⟨pk c6.out⟩, ⟨pk d1.out⟩, ⟨pB HB.out⟩⟩
        rw [if_neg u0] at H
        have E3 := decide_eq_false u0
        clear u0
        replace H := Option.bind_eq_some_iff.mp H
        obtain ⟨CG, z9, H⟩ := H
        try dsimp only at H
        have Ak := am z9
        clear z9
        obtain rfl := Option.some.inj H
        go_wp2_with (first | ((with_reducible refine gC 16 ?_); refine gL 159 Try.func16 #[] ?_; (with_reducible refine (F0.calls k3  CG _ Ak.out).mono ?_); rintro e ES ⟨rfl, hb⟩; refine ⟨_, rfl, ?_⟩; replace a4 := vB a4 hb; replace a5 := vB a5 hb; replace a7 := vB a7 hb; replace a8 := vB a8 hb; replace a9 := vB a9 hb; replace b0 := vB b0 hb; replace b1 := vB b1 hb; replace b2 := vB b2 hb; replace b7 := vB b7 hb; replace b8 := vB b8 hb; replace a6 := kB a6 hb; replace b3 := kB b3 hb; replace b5 := kB b5 hb; replace c6 := kB c6 hb; replace d1 := kB d1 hb; replace HB := bS HB hb; (try clear hb)))
        go_ret
        exact ⟨by first | rfl | (simp [q1t, q1s] <;> rfl) | (simp only [← hji8, ← hji9, ← hji10, ← hji11]; first | rfl | (simp [q1t, q1s] <;> rfl)) | (simp [*, q1t, q1s] <;> rfl), pB HB.out⟩
 replace c7 := Bool.eq_false_iff.mpr c7
 subst c7
 rw [if_neg (show ¬ (false = true) by decide)] at H
 try dsimp only at H
 replace H := Option.bind_eq_some_iff.mp H
 obtain ⟨CD, A1, H⟩ := H
 try dsimp only at H
 have Al := am A1
 clear A1
 obtain rfl := Option.some.inj H
 go_enter Try.func8, Try.ntmps8
 go_wp2_with (first | ((with_reducible refine gD 4 ?_); refine bz 4 #[.string r9, .string s0, .slice t4 p2.length t7, .int .i64 s1, .slice t5 p3.length t8] 27 HB ?_; clear HB; intro b4 hg ET hb a6 n3 HB; clear hb hg; have X0 := y5 a6) | ((with_reducible refine gC 9 ?_); refine gL 22 Try.func9 #[.agg #[.string r9, .string s0, .slice t4 p2.length t7, .int .i64 s1, .slice t5 p3.length t8]] ?_; (with_reducible refine (F5.calls k r9 s0 (fun k_ => k_ < w.heap.size) _ _ p2 s1 (fun k_ => k_ < w.heap.size) _ _ p3 e2 e3 d3 d2 d4 _ ?side1 ?side2 A5.out).mono ?_); (case side1 => exact Kd.V_mk B8.out (Kd.F_below (Kd.C_F k49_heap C0.out) (pB HB.out))); (case side2 => exact Kd.V_mk B9.out (Kd.F_below (Kd.C_F k51_heap C1.out) (pB HB.out))); rintro e EU ⟨CN, CO, rfl, g6, g7, hb⟩; refine ⟨_, rfl, ?_⟩; have d9 := vL (ok' := fun k_ => k_ ≠ b4) HB g6 (fun k_ d8 => Or.elim d8 (fun a0 => Or.elim a0 (nw n3) (nw n3)) (fB a6)); have e0 := vL (ok' := fun k_ => k_ ≠ b4) HB g7 (fun k_ d8 => Or.elim d8 (fun a0 => Or.elim a0 (nw n3) (nw n3)) (fB a6)); replace a6 := kB a6 hb; replace HB := bS HB hb; (try clear hb); (try clear g6); (try clear g7); have X1 := y5 a6; obtain ⟨B6, D4, Q6⟩ := Kd.V_slice d9.out; subst Q6; obtain ⟨B7, D5, Q7⟩ := Kd.V_slice e0.out; subst Q7) | ((with_reducible refine gC 15 ?_); refine gL 24 Try.func15 #[.agg #[.string e2, .string e3, .slice B6 d3.length D4, .int .i64 d2, .slice B7 d4.length D5]] ?_; (with_reducible refine (Fa.calls k e2 e3 _ _ d3 d2 _ _ d4 false _ ?side1 ?side2 ?side3 ?side4 A6.out).mono ?_); (case side1 => exact (Kd.V_reads' (pV d9.out)).2.2); (case side2 => exact (Kd.V_reads' d9.out).2.1); (case side3 => exact (Kd.V_reads' (pV e0.out)).2.2); (case side4 => exact (Kd.V_reads' e0.out).2.1); rintro e EV ⟨rfl, hb⟩; refine ⟨_, rfl, ?_⟩; replace d9 := vB d9 hb; replace e0 := vB e0 hb; replace a6 := am (q0b (g := b4) (o := .cells #[.string e2, .string e3, .slice B6 d3.length D4, .int .i64 d2, .slice B7 d4.length D5] 27 (0, 0)) (pP a6.out) hb); replace HB := bS HB hb; (try clear hb)) | ((with_reducible refine gC 16 ?_); refine gL 26 Try.func16 #[] ?_; (with_reducible refine (F0.calls k  CD _ Al.out).mono ?_); rintro e EW ⟨rfl, hb⟩; refine ⟨_, rfl, ?_⟩; replace d9 := vB d9 hb; replace e0 := vB e0 hb; replace a6 := kB a6 hb; replace HB := bS HB hb; (try clear hb)))
 go_ret
 exact ⟨er, pB HB.out⟩
end Go.Proofs.Ytabmkighhmchmaa.X
namespace Go.Proofs.Ytabmkighhmchmaa.X
open Go.RowKit Go.YW.PrintWords
def Fb.Pure : Prop := ∀ (x0 : S27) (a1 : Int) (a2 : Int) (a3 : Int), (x0.f0.size ≤ maxLen ∧ ((x0.f1.f0.size ≤ maxLen ∧ (x0.f1.f1.length ≤ maxLen ∧ ∀ a_ ∈ x0.f1.f1, ((a_.f0.length ≤ maxLen ∧ ∀ b_ ∈ a_.f0, (Lit.int .i64 b_).wf = true) ∧ (Lit.int .i64 a_.f1).wf = true ∧ (Lit.int .i64 a_.f2).wf = true ∧ (Lit.int .i64 a_.f3).wf = true)))) ∧ (Lit.int .i64 x0.f2).wf = true ∧ (x0.f3.length ≤ maxLen ∧ ∀ a_ ∈ x0.f3, ((Lit.int .i64 a_.f0).wf = true ∧ (Lit.int .i64 a_.f1).wf = true ∧ (Lit.int .i64 a_.f2).wf = true ∧ (Lit.int .i64 a_.f3).wf = true ∧ a_.f4.size ≤ maxLen))) → (Lit.int .i64 a1).wf = true → (Lit.int .i64 a2).wf = true → (Lit.int .i64 a3).wf = true → ∃ k, Fb.f k x0.f0 x0.f1.f0 x0.f1.f1 x0.f2 x0.f3 a1 a2 a3 = some true
end Go.Proofs.Ytabmkighhmchmaa.X
namespace Go.Proofs.Ytabmkighhmchmaa.X
open Go.RowKit Go.YW.PrintWords Go.YW.PrintLast Go.YW.PrintMore Go.YW.Sq
attribute [local go_sem] q0y q0w q1g q1f q0t q0s q0x q0v
set_option linter.unusedVariables false
set_option linter.unusedSimpArgs false
end Go.Proofs.Ytabmkighhmchmaa.X
namespace Go.Proofs.Ytabmkighhmchmaa.Pure
open Go.RowKit Go.Proofs.Ytabmkighhmchmaa.X Go.YW.PrintWords Go.YW.PrintLast
theorem q2k (xs : List S51) (i : Nat) (h : i < xs.length) : q0c xs (i : Int) = xs[i] := by
 simp [q0c, List.getD_eq_getElem?_getD, List.getElem?_eq_getElem h]
theorem rd49_nat (ts : List S49) (i : Nat) (h : i < ts.length) : q0e ts (i : Int) = ts[i] := by
 simp [q0e, List.getD_eq_getElem?_getD, List.getElem?_eq_getElem h]
theorem q4e (i : Nat) (h : i ≤ 1000000) : wrap64 ((i : Int) + 1) = ((i + 1 : Nat) : Int) := by unfold wrap64; omega
def hasB (c : Int) (xs : List S51) : Bool := xs.any fun s => decide (s.f0 = c)
theorem has_l0 (c : Int) (xs : List S51) (hl : xs.length ≤ 1000) : ∀ m i k : Nat, i + m = xs.length → m < k → Ff.l0 k c xs (xs.length : Int) (i : Int) = some (hasB c (xs.drop i)) := by
 intro m
 induction m with
 | zero =>
  intro i k hi hk
  obtain ⟨k, rfl⟩ : ∃ q, k = q + 1 := ⟨k - 1, by omega⟩
  rw [Ff.l0, if_neg (by omega), List.drop_eq_nil_of_le (by omega)]
  rfl
 | succ m ih =>
  intro i k hi hk
  obtain ⟨k, rfl⟩ : ∃ q, k = q + 1 := ⟨k - 1, by omega⟩
  rw [Ff.l0, if_pos (by omega), if_pos (by omega), if_pos (by omega), q2k xs i (by omega), List.drop_eq_getElem_cons (show i < xs.length by omega)]
  unfold hasB
  rw [List.any_cons]
  by_cases h : xs[i].f0 = c
  ·
   rw [if_pos h, decide_eq_true h, Bool.true_or]
  rw [if_neg h, decide_eq_false h, Bool.false_or, q4e i (by omega), ih (i + 1) k (by omega) (by omega)]
  rfl
theorem has_f (k : Nat) (ky nm : ByteArray) (ts : List S49) (is : Int) (xs : List S51) (c : Int) (hl : xs.length ≤ 1000) (hk : xs.length < k) : Ff.f k ky nm ts is xs c = some (hasB c xs) := by
 have h := has_l0 c xs hl xs.length 0 k (by omega) hk
 rw [List.drop_zero] at h
 exact h
def q1p (ts : List S49) (xs : List S51) (i : Nat) : Bool := (q0e ts (i : Int)).f0.all fun x => decide ((q0c xs x).f0 = 3)
def Wf (ts : List S49) (n : Nat) : Prop := ts.length = n ∧ n ≤ 10 ∧ ∀ i : Nat, i < n → (q0e ts (i : Int)).f0.length ≤ 10 ∧ ∀ x ∈ (q0e ts (i : Int)).f0, 0 ≤ x ∧ x < (n : Int)
theorem rdI_nat (l : List Int) (i : Nat) (h : i < l.length) : rd l (i : Int) = l[i] := by simp [rd, List.getD_eq_getElem?_getD, List.getElem?_eq_getElem h]
theorem isready_l0 (l : List Int) (ky nm : ByteArray) (ts : List S49) (is : Int) (xs : List S51) (hl : l.length ≤ 1000) (hx : ∀ x ∈ l, 0 ≤ x ∧ x < (xs.length : Int)) : ∀ m i k : Nat, i + m = l.length → m < k →
  Fk.l0 k l (l.length : Int) (i : Int) ky nm ts is xs = some ((l.drop i).all fun x => decide ((q0c xs x).f0 = 3)) := by
 intro m
 induction m with
 | zero =>
  intro i k hi hk
  obtain ⟨k, rfl⟩ : ∃ q, k = q + 1 := ⟨k - 1, by omega⟩
  rw [Fk.l0, if_neg (by omega), List.drop_eq_nil_of_le (by omega)]
  rfl
 | succ m ih =>
  intro i k hi hk
  obtain ⟨k, rfl⟩ : ∃ q, k = q + 1 := ⟨k - 1, by omega⟩
  have hb := hx l[i] (List.getElem_mem _)
  rw [Fk.l0, if_pos (by omega), if_pos (by omega), if_pos (by omega), rdI_nat l i (by omega), if_pos hb.1, if_pos hb.2, List.drop_eq_getElem_cons (show i < l.length by omega), List.all_cons]
  by_cases h : (q0c xs l[i]).f0 = 3
  ·
   rw [if_pos h, decide_eq_true h, Bool.true_and, q4e i (by omega), ih (i + 1) k (by omega) (by omega)]
  rw [if_neg h, decide_eq_false h, Bool.false_and]
theorem isready_f (k : Nat) (ky nm : ByteArray) (ts : List S49) (is : Int) (xs : List S51) (h : Wf ts xs.length) (i : Nat) (hi : i < xs.length) (hk : 20 ≤ k) : Fk.f k ky nm ts is xs (i : Int) = some (q1p ts xs i) := by
 obtain ⟨h1, h2, h3⟩ := h
 obtain ⟨h4, h5⟩ := h3 i hi
 unfold Fk.f
 rw [if_pos (by omega), if_pos (by omega)]
 have h6 := isready_l0 (q0e ts (i : Int)).f0 ky nm ts is xs (by omega) h5 (q0e ts (i : Int)).f0.length 0 k (by omega) (by omega)
 rw [List.drop_zero] at h6
 exact h6
theorem anyO_open (xs : List S51) : ∀ l : List Int, (∀ x ∈ l, 0 ≤ x ∧ x < (xs.length : Int)) → anyO (openO xs) l = some (!(l.all fun x => decide ((q0c xs x).f0 = 3)))
 | [], _ => rfl
 | x :: l, h => by
  have hb := h x (List.mem_cons_self ..)
  rw [anyO, openO, if_pos hb, Option.bind_some, List.all_cons, anyO_open xs l (fun y hy => h y (List.mem_cons_of_mem _ hy))]
  by_cases e : (q0c xs x).f0 = 3
  ·
   rw [decide_eq_true e, Bool.true_and, if_neg (by simp [e])]
  rw [decide_eq_false e, Bool.false_and, if_pos (by simpa using e)]
  rfl
theorem ready_o (ts : List S49) (xs : List S51) (h : Wf ts xs.length) (i : Nat) (hi : i < xs.length) : readyO ts xs (i : Int) = some (q1p ts xs i) := by
 obtain ⟨h1, h2, h3⟩ := h
 obtain ⟨h4, h5⟩ := h3 i hi
 unfold readyO
 rw [if_pos ⟨by omega, by omega⟩]
 unfold anyF
 rw [if_pos (by omega), anyO_open xs _ h5, Option.bind_some, Bool.not_not]
 rfl
end Go.Proofs.Ytabmkighhmchmaa.Pure
namespace Go.Proofs.Ytabmkighhmchmaa.X
open Go.RowKit Go.YW.PrintWords Go.YW.PrintLast Go.YW.PrintMore Go.YW.Sq
attribute [local go_sem] q0y q0w q1g q1f q0t q0s q0x q0v
set_option linter.unusedVariables false
set_option linter.unusedSimpArgs false
set_option linter.unusedSimpArgs false
end Go.Proofs.Ytabmkighhmchmaa.X
namespace Go.Proofs.Ytabmkighhmchmaa.Pure
open Go.RowKit Go.Proofs.Ytabmkighhmchmaa.X Go.YW.PrintWords Go.YW.PrintLast
def q1m (ts : List S49) (xs : List S51) : Nat → List S51
 | 0 => xs
 | q + 1 => if q1p ts (q1m ts xs q) q = true then (q1m ts xs q).set q (q2e (q0c xs (q : Int))) else q1m ts xs q
theorem q3d (ts : List S49) (xs : List S51) : ∀ q, (q1m ts xs q).length = xs.length
 | 0 => rfl
 | q + 1 => by rw [q1m]; split <;> simp [q3d ts xs q]
theorem readyTo_at (ts : List S49) (xs : List S51) : ∀ (q j : Nat), q ≤ j → q0c (q1m ts xs q) (j : Int) = q0c xs (j : Int)
 | 0, _, _ => rfl
 | q + 1, j, h => by
  have ih := readyTo_at ts xs q j (by omega)
  rw [q1m]
  split
  ·
   rw [← ih]
   unfold q0c
   simp only [Int.toNat_natCast, List.getD_eq_getElem?_getD]
   rw [List.getElem?_set_ne (by omega)]
  exact ih
def allB (c : Int) (xs : List S51) : Bool := xs.all fun s => decide (s.f0 = c)
def mendP (ts : List S49) (is : Int) (xs : List S51) : Int × List S51 :=
 if hasB 4 xs = true then (2, xs.map q0u) else (if allB 3 (q1m ts xs xs.length) = true then 1 else is, q1m ts xs xs.length)
theorem upto_snd (xs : List S51) : ∀ n, n ≤ xs.length → (upto xs n).map (·.2) = xs.take n
 | 0, _ => by simp [upto]
 | n + 1, h => by rw [upto_succ, List.map_append, upto_snd xs n (by omega), List.take_succ_eq_append_getElem (by omega)]; simp [q2k xs n (by omega)]
theorem cnt_eq (ks : List Int) (xs : List S51) : cntI ks (upto xs xs.length) = ((xs.filter fun s => ks.contains s.f0).length : Int) := by
 unfold cntI
 rw [← List.length_map (f := (·.2)) , show (List.filter (fun x : Nat × S51 => ks.contains x.2.f0) (upto xs xs.length)).map (·.2) = List.filter (fun s : S51 => ks.contains s.f0) ((upto xs xs.length).map (·.2)) by rw [List.filter_map]; rfl, upto_snd xs _ (Nat.le_refl _), List.take_length]
theorem cnt_pos (c : Int) (xs : List S51) : 0 < cntI [c] (upto xs xs.length) ↔ hasB c xs = true := by
 rw [cnt_eq]
 unfold hasB
 rw [List.any_eq_true]
 constructor
 ·
  intro h
  obtain ⟨s, hs⟩ := List.exists_mem_of_length_pos (l := xs.filter fun s => [c].contains s.f0) (by omega)
  rw [List.mem_filter] at hs
  exact ⟨s, hs.1, by simpa using hs.2⟩
 rintro ⟨s, hs, h⟩
 have : s ∈ xs.filter fun s => [c].contains s.f0 := List.mem_filter.2 ⟨hs, by simpa using h⟩
 have := List.length_pos_of_mem this
 omega
theorem cnt_all (c : Int) (xs : List S51) : cntI [c] (upto xs xs.length) = (xs.length : Int) ↔ allB c xs = true := by
 rw [cnt_eq]
 unfold allB
 rw [List.all_eq_true]
 constructor
 ·
  intro h s hs
  have h2 : (xs.filter fun s => [c].contains s.f0).length = xs.length := by omega
  rw [List.length_filter_eq_length_iff] at h2
  simpa using h2 s hs
 intro h
 have h2 : (xs.filter fun s => [c].contains s.f0).length = xs.length := List.length_filter_eq_length_iff.2 (fun s hs => by simpa using h s hs)
 omega
theorem mendTo_eq (ts : List S49) (xs : List S51) (h : Wf ts xs.length) : ∀ q, q ≤ xs.length → mendTo ts xs q = some (q1m ts xs q)
 | 0, _ => rfl
 | q + 1, hq => by
  rw [mendTo, mendTo_eq ts xs h q (by omega), Option.bind_some, ready_o ts (q1m ts xs q) (by rw [q3d]; exact h) q (by rw [q3d]; omega), Option.bind_some, q1m, readyTo_at ts xs q q (Nat.le_refl _)]
theorem mend_f (ts : List S49) (is : Int) (xs : List S51) (h : Wf ts xs.length) : mendF ts is xs = some (mendP ts is xs) := by
 unfold mendF mendP
 rw [if_pos (by have := h.2.1; omega)]
 by_cases h4 : hasB 4 xs = true
 ·
  rw [if_pos ((cnt_pos 4 xs).2 h4), if_pos h4]
 rw [if_neg (fun h' => h4 ((cnt_pos 4 xs).1 h')), if_neg h4, mendTo_eq ts xs h _ (Nat.le_refl _), Option.bind_some]
 by_cases h3 : allB 3 (q1m ts xs xs.length) = true
 ·
  rw [if_pos ((cnt_all 3 _).2 h3), if_pos h3]
 rw [if_neg (fun h' => h3 ((cnt_all 3 _).1 h')), if_neg h3]
end Go.Proofs.Ytabmkighhmchmaa.Pure
namespace Go.Proofs.Ytabmkighhmchmaa.X
open Go.RowKit Go.YW.PrintWords Go.YW.PrintLast Go.YW.PrintMore Go.YW.Sq
attribute [local go_sem] q0y q0w q1g q1f q0t q0s q0x q0v
set_option linter.unusedVariables false
set_option linter.unusedSimpArgs false
set_option linter.unusedSimpArgs false
end Go.Proofs.Ytabmkighhmchmaa.X
