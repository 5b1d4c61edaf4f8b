/- Words and walks for the law RunSettles, joined and made small by a program of mine. -/
import Derived.Test.YtabmkighhmchmaaG2
import Derived.Test.YtabmkighhmchmaaG3
import Derived.LoopTactic
import Derived.Outline
import Derived.BigRegion
namespace Go.Proofs.Ytabmkighhmchmaa.X
open Go.RowKit Go.YW.PrintWords Go.YW.PrintLast Go.YW.PrintMore Go.YW.Sq
attribute [local go_sem] q0y q0w q1g q1f q0t q0s q0x q0v
set_option linter.unusedVariables false
set_option linter.unusedSimpArgs false
def Gb.f (k : Nat) (b0 : List Int) (a7 : Int) (a8 : Int) (a1 : Int) (a0 : Int) (a3 : Int) (a9 : Int) (a4 : Int) (a5 : ByteArray) (a2 : Int) : Option (Int × Int × Int × Int × ByteArray × Int) := if a0 = 2 then ((Fo.f k a2 (([a1] : List Int))).bind fun a6 => (some (a0, a3, a6, a4, a5, 0))) else (some (0, 0, 0, 0, (⟨#[]⟩ : ByteArray), 191))
set_option maxHeartbeats 8000000 in
set_option maxRecDepth 100000 in
theorem Gb.calls (k : Nat) (b8 : Option Addr) (c8 : Nat) (b1 : List Int) (b9 : Int) (c6 : Int) (a8 : Int) (b0 : Int) (b3 : Int) (c7 : Int) (b4 : Int) (b5 : ByteArray) (a2 : Int) (r1 : Int) (r2 : Int) (r3 : Int) (r4 : Int) (r5 : ByteArray) (r6 : Int) (w : World) (d2 : Kd.C (Kd.int .i64) w b8 b1.length b1) (d1 : b1.length ≤ c8) (h : Gb.f k b1 b9 c6 a8 b0 b3 c7 b4 b5 a2 = some (r1, r2, r3, r4, r5, r6)) :
  Calls Try.prog 52 #[.agg #[.slice b8 b1.length c8, .int .i64 b9, .int .i64 c6, .int .i64 a8], .agg #[.int .i64 b0, .int .i64 b3, .int .i64 c7, .int .i64 b4, .string b5], .int .i64 a2] w fun e w' => e = .returned (.tuple #[.agg #[.int .i64 r1, .int .i64 r2, .int .i64 r3, .int .i64 r4, .string r5], .int .i64 r6]) ∧ Below w.heap.size w w' := by
 have g1 := Try.underlying49
 have g2 := Try.underlying51
 have f3 := am d2
 have f2 := am d1
 clear d2 d1
 have HB := am (Below.refl w.heap.size w)
 unfold Gb.f at h
 have H := h
 clear h
 by_cases c4 : b0 = 2
 ·
  rw [if_pos c4] at H
  obtain ⟨e7, e8⟩ := qt c4
  clear c4
  obtain ⟨y974, hy974⟩ : ∃ y_ : List Int, y_ = (([a8] : List Int)) := ⟨_, rfl⟩
  replace H : ((Fo.f k a2 y974).bind fun c9 => (some (b0, b3, c9, b4, b5, 0))) = some (r1, r2, r3, r4, r5, r6) := by first | (rw [hy974]; with_reducible exact H) | (have e6 := (Option.bind_some _ _).symm.trans H; rw [hy974]; with_reducible exact e6) | (have e6 := (Option.bind_some _ _).symm.trans H; with_reducible exact e6) | with_reducible exact H | (rw [hy974]; exact H) | exact H
  have d0 := am hy974
  clear hy974
  replace H := Option.bind_eq_some_iff.mp H
  obtain ⟨c9, f1, H⟩ := H
  try dsimp only at H
  have A5 := am f1
  clear f1
  simp only [Option.some.injEq, Prod.mk.injEq] at H
  obtain ⟨rfl, rfl, rfl, rfl, rfl, rfl⟩ := H
  go_enter Try.func52, Try.ntmps52
  go_wp2_with (first | ((with_reducible refine gD 3 ?_); refine bz 3 #[.slice b8 b1.length c8, .int .i64 b9, .int .i64 c6, .int .i64 a8] 49 HB ?_; clear HB; intro d6 hg w6 hb a0 d3 HB; clear hb hg) | ((with_reducible refine gD 4 ?_); refine bz 4 #[.int .i64 b0, .int .i64 b3, .int .i64 c7, .int .i64 b4, .string b5] 51 HB ?_; clear HB; intro d7 hg w7 hb a1 d4 HB; have b2 := nL hg a0; have a4 := nG hg a0; replace a0 := kB a0 hb; clear hb hg) | ((with_reducible refine gD 6 ?_); refine bz 6 #[.int .i64 0, .int .i64 0, .int .i64 0, .int .i64 0, .string (⟨#[]⟩ : ByteArray)] 51 HB ?_; clear HB; intro b6 hg w8 hb a3 d5 HB; have a6 := nL hg a0; have a7 := nG hg a0; replace a0 := kB a0 hb; have a5 := nL hg a1; replace a1 := kB a1 hb; clear hb hg; have g0 := nn a4; have f4 := nn a5; have d9 := y5 a1; have f5 := nn a6; have e0 := y4 a0) | ((with_reducible refine gD 15 ?_); refine Kd.R_lit (Kd.int .i64) _ 3 ?hg (N := 15) ?hd (xs := ([a8] : List Int)) (inner := [.int .i64 a8]) (ok := fun _ => True) (okp := fun _ => True) ?hr ?hp (fun _ hk => hk) trivial (Below.refl _ _) (Nat.le_refl _) (by simp) ?_; (case hd => rfl); (case hg => rfl); (case hr => first | (go_simp; done) | (go_simp; rfl)); (case hp => exact (Reps.one (show Kd.M (Kd.int .i64) _ _ _ a8 [.int .i64 a8] from rfl) (Reps.none _ _))); intro g3 g4 b7 hb f9 d8; clear f9 d8; (first | rw [← d0.out] at b7 | (simp only [Int.reduceToNat] at b7; rw [← d0.out] at b7)); have a9 := am (Kd.R_lower b7 (q0p (pB HB.out))); replace a0 := kB a0 hb; replace a1 := kB a1 hb; replace a3 := kB a3 hb; replace HB := bS HB hb; clear hb b7; obtain ⟨e5, e9, f0⟩ := Kd.R_slice a9.out; subst f0) | ((with_reducible refine gC 75 ?_); refine gL 16 Try.func75 #[.int .i64 a2, .slice e5 y974.length e9] ?_; (with_reducible refine (Fo.calls k a2 _ _ y974 c9 _ ?side1 ?side2 A5.out).mono ?_); (case side1 => exact pC ((Kd.R_reads' a9.out).2.2)); (case side2 => exact (Kd.R_reads' a9.out).2.1); rintro e g5 ⟨rfl, hb⟩; refine ⟨_, rfl, ?_⟩; replace a9 := am (Kd.R_below (pR a9.out) hb); replace a0 := kB a0 hb; replace a1 := kB a1 hb; replace a3 := kB a3 hb; replace HB := bS HB hb; (try clear hb); have e1 := y5 a1; have e2 := y5 a3))
  refine bodyPost_ret (q1a rfl _ _ b6 51 #[.int .i64 b0, .int .i64 b3, .int .i64 c9, .int .i64 b4, .string b5] (0, 0) _ rfl (pP a3.out) Try.underlying51 rfl (by kernel_rfl)) rfl ?_
  exact ⟨er, pB HB.out⟩
 rw [if_neg c4] at H
 obtain ⟨e7, e8⟩ := qf c4
 simp only [Option.some.injEq, Prod.mk.injEq] at H
 obtain ⟨rfl, rfl, rfl, rfl, rfl, rfl⟩ := H
 go_enter Try.func52, Try.ntmps52
 go_wp2_with (first | ((with_reducible refine gD 3 ?_); refine bz 3 #[.slice b8 b1.length c8, .int .i64 b9, .int .i64 c6, .int .i64 a8] 49 HB ?_; clear HB; intro d6 hg g6 hb a0 d3 HB; clear hb hg) | ((with_reducible refine gD 4 ?_); refine bz 4 #[.int .i64 b0, .int .i64 b3, .int .i64 c7, .int .i64 b4, .string b5] 51 HB ?_; clear HB; intro d7 hg g7 hb a1 d4 HB; have b2 := nL hg a0; have a4 := nG hg a0; replace a0 := kB a0 hb; clear hb hg) | ((with_reducible refine gD 6 ?_); refine bz 6 #[.int .i64 0, .int .i64 0, .int .i64 0, .int .i64 0, .string (⟨#[]⟩ : ByteArray)] 51 HB ?_; clear HB; intro b6 hg g8 hb a3 d5 HB; have a6 := nL hg a0; have a7 := nG hg a0; replace a0 := kB a0 hb; have a5 := nL hg a1; replace a1 := kB a1 hb; clear hb hg; have f6 := nn a4; have f7 := nn a5; have e3 := y5 a1; have f8 := nn a7; have e4 := y5 a3))
 refine bodyPost_ret (q1a rfl _ _ b6 51 #[.int .i64 0, .int .i64 0, .int .i64 0, .int .i64 0, .string (⟨#[]⟩ : ByteArray)] (0, 0) _ rfl (pP a3.out) Try.underlying51 rfl (by kernel_rfl)) rfl ?_
 exact ⟨er, pB HB.out⟩
def Gc.f (a9 : List Int) (a3 : Int) (a4 : Int) (a5 : Int) (a0 : Int) (a1 : Int) (a6 : Int) (a7 : Int) (a8 : ByteArray) (a2 : ByteArray) : Option (Int × Int × Int × Int × ByteArray × Int) := if a0 = 2 then (if (a2.size : Int) > 16 then (some (0, 0, 0, 0, (⟨#[]⟩ : ByteArray), 1)) else (some (3, a1, 0, 0, a2, 0))) else (some (0, 0, 0, 0, (⟨#[]⟩ : ByteArray), 191))
set_option maxHeartbeats 8000000 in
set_option maxRecDepth 100000 in
theorem Gc.calls (b3 : Option Addr) (c6 : Nat) (b0 : List Int) (b4 : Int) (b5 : Int) (b6 : Int) (b1 : Int) (b2 : Int) (b7 : Int) (b8 : Int) (b9 : ByteArray) (a2 : ByteArray) (r1 : Int) (r2 : Int) (r3 : Int) (r4 : Int) (r5 : ByteArray) (r6 : Int) (w : World) (d3 : Kd.C (Kd.int .i64) w b3 b0.length b0) (d2 : b0.length ≤ c6) (h : Gc.f b0 b4 b5 b6 b1 b2 b7 b8 b9 a2 = some (r1, r2, r3, r4, r5, r6)) :
  Calls Try.prog 54 #[.agg #[.slice b3 b0.length c6, .int .i64 b4, .int .i64 b5, .int .i64 b6], .agg #[.int .i64 b1, .int .i64 b2, .int .i64 b7, .int .i64 b8, .string b9], .string a2] w fun e w' => e = .returned (.tuple #[.agg #[.int .i64 r1, .int .i64 r2, .int .i64 r3, .int .i64 r4, .string r5], .int .i64 r6]) ∧ Below w.heap.size w w' := by
 have f5 := Try.underlying49
 have f6 := Try.underlying51
 have e5 := am d3
 have e4 := am d2
 clear d3 d2
 have HB := am (Below.refl w.heap.size w)
 unfold Gc.f at h
 have H := h
 clear h
 by_cases c4 : b1 = 2
 ·
  rw [if_pos c4] at H
  obtain ⟨e0, e1⟩ := qt c4
  clear c4
  by_cases c5 : (a2.size : Int) > 16
  ·
   rw [if_pos c5] at H
   have e2 := decide_eq_true c5
   have e3 : decide (16 < a2.size) = true := decide_eq_true (by omega)
   clear c5
   simp only [Option.some.injEq, Prod.mk.injEq] at H
   obtain ⟨rfl, rfl, rfl, rfl, rfl, rfl⟩ := H
   go_enter Try.func54, Try.ntmps54
   go_wp2_with (first | ((with_reducible refine gD 3 ?_); refine bz 3 #[.slice b3 b0.length c6, .int .i64 b4, .int .i64 b5, .int .i64 b6] 49 HB ?_; clear HB; intro d0 hg w6 hb a0 c7 HB; clear hb hg) | ((with_reducible refine gD 4 ?_); refine bz 4 #[.int .i64 b1, .int .i64 b2, .int .i64 b7, .int .i64 b8, .string b9] 51 HB ?_; clear HB; intro d1 hg w7 hb a1 c8 HB; have a7 := nL hg a0; have a3 := nG hg a0; replace a0 := kB a0 hb; clear hb hg) | ((with_reducible refine gD 6 ?_); refine bz 6 #[.int .i64 0, .int .i64 0, .int .i64 0, .int .i64 0, .string (⟨#[]⟩ : ByteArray)] 51 HB ?_; clear HB; intro a9 hg w8 hb a6 c9 HB; have a8 := nL hg a0; have a5 := nG hg a0; replace a0 := kB a0 hb; have a4 := nL hg a1; replace a1 := kB a1 hb; clear hb hg; have f4 := nn a3; have e6 := nn a4; have d4 := y5 a1; have e7 := nn a5; have d5 := y5 a6))
   refine bodyPost_ret (q1a rfl _ _ a9 51 #[.int .i64 0, .int .i64 0, .int .i64 0, .int .i64 0, .string (⟨#[]⟩ : ByteArray)] (0, 0) _ rfl (pP a6.out) Try.underlying51 rfl (by kernel_rfl)) rfl ?_
   exact ⟨er, pB HB.out⟩
  rw [if_neg c5] at H
  have e2 := decide_eq_false c5
  have e3 : decide (16 < a2.size) = false := decide_eq_false (by omega)
  clear c5
  simp only [Option.some.injEq, Prod.mk.injEq] at H
  obtain ⟨rfl, rfl, rfl, rfl, rfl, rfl⟩ := H
  go_enter Try.func54, Try.ntmps54
  go_wp2_with (first | ((with_reducible refine gD 3 ?_); refine bz 3 #[.slice b3 b0.length c6, .int .i64 b4, .int .i64 b5, .int .i64 b6] 49 HB ?_; clear HB; intro d0 hg f7 hb a0 c7 HB; clear hb hg) | ((with_reducible refine gD 4 ?_); refine bz 4 #[.int .i64 b1, .int .i64 b2, .int .i64 b7, .int .i64 b8, .string b9] 51 HB ?_; clear HB; intro d1 hg f8 hb a1 c8 HB; have a7 := nL hg a0; have a3 := nG hg a0; replace a0 := kB a0 hb; clear hb hg) | ((with_reducible refine gD 6 ?_); refine bz 6 #[.int .i64 0, .int .i64 0, .int .i64 0, .int .i64 0, .string (⟨#[]⟩ : ByteArray)] 51 HB ?_; clear HB; intro a9 hg f9 hb a6 c9 HB; have a8 := nL hg a0; have a5 := nG hg a0; replace a0 := kB a0 hb; have a4 := nL hg a1; replace a1 := kB a1 hb; clear hb hg; have e8 := nn a3; have e9 := nn a4; have d6 := y5 a1; have f0 := nn a5; have d7 := y5 a6))
  refine bodyPost_ret (q1a rfl _ _ a9 51 #[.int .i64 3, .int .i64 b2, .int .i64 0, .int .i64 0, .string a2] (0, 0) _ rfl (pP a6.out) Try.underlying51 rfl (by kernel_rfl)) rfl ?_
  exact ⟨er, pB HB.out⟩
 rw [if_neg c4] at H
 obtain ⟨e0, e1⟩ := qf c4
 simp only [Option.some.injEq, Prod.mk.injEq] at H
 obtain ⟨rfl, rfl, rfl, rfl, rfl, rfl⟩ := H
 go_enter Try.func54, Try.ntmps54
 go_wp2_with (first | ((with_reducible refine gD 3 ?_); refine bz 3 #[.slice b3 b0.length c6, .int .i64 b4, .int .i64 b5, .int .i64 b6] 49 HB ?_; clear HB; intro d0 hg g0 hb a0 c7 HB; clear hb hg) | ((with_reducible refine gD 4 ?_); refine bz 4 #[.int .i64 b1, .int .i64 b2, .int .i64 b7, .int .i64 b8, .string b9] 51 HB ?_; clear HB; intro d1 hg g1 hb a1 c8 HB; have a7 := nL hg a0; have a3 := nG hg a0; replace a0 := kB a0 hb; clear hb hg) | ((with_reducible refine gD 6 ?_); refine bz 6 #[.int .i64 0, .int .i64 0, .int .i64 0, .int .i64 0, .string (⟨#[]⟩ : ByteArray)] 51 HB ?_; clear HB; intro a9 hg g2 hb a6 c9 HB; have a8 := nL hg a0; have a5 := nG hg a0; replace a0 := kB a0 hb; have a4 := nL hg a1; replace a1 := kB a1 hb; clear hb hg; have f1 := nn a3; have f2 := nn a4; have d8 := y5 a1; have f3 := nn a5; have d9 := y5 a6))
 refine bodyPost_ret (q1a rfl _ _ a9 51 #[.int .i64 0, .int .i64 0, .int .i64 0, .int .i64 0, .string (⟨#[]⟩ : ByteArray)] (0, 0) _ rfl (pP a6.out) Try.underlying51 rfl (by kernel_rfl)) rfl ?_
 exact ⟨er, pB HB.out⟩
mutual
def Ft.j0 : Nat → Int → Int → Bool → Option (Int)
 | 0, _, _, _ => none
 | k + 1, x0, x1, a0 => if a0 = true then (some 0) else (Ft.l0 k (mn x0 1048576) x1)
def Ft.l0 : Nat → Int → Int → Option (Int)
 | 0, _, _ => none
 | k + 1, x0, x1 => if x1 > 1 then (if x0 < 1048576 then (Ft.l0 k (wrap64 (x0 * 2)) (wrap64 (x1 - 1))) else (some (mn x0 1048576))) else (some (mn x0 1048576))
end
def Ft.f (k : Nat) (a0 : Int) (a1 : Int) : Option (Int) := if a0 < 1 then (Ft.j0 k a0 a1 true) else (Ft.j0 k a0 a1 (decide (a1 < 1)))
set_option maxHeartbeats 8000000 in
set_option maxRecDepth 100000 in
theorem Ft.calls (k : Nat) (a0 : Int) (a1 : Int) (r : Int) (w : World) (h : Ft.f k a0 a1 = some r) :
  Calls Try.prog 83 #[.int .i64 a0, .int .i64 a1] w fun e w' => e = .returned (.int .i64 r) ∧ Below w.heap.size w w' := by
 have HB := am (Below.refl w.heap.size w)
 unfold Ft.f at h
 have H := h
 clear h
 have a6 := am H
 clear H
 go_enter Try.func83, Try.ntmps83
 go_upto_region 1 with (fail)
 go_cut [10] (fun b5 wc => ∃ (kq : Nat) (a3 : Bool), b5 = .bool a3 ∧ q0f (Ft.j0 kq a0 a1 a3 = some r) ∧ q0f (kq ≤ k) ∧ q0f (Below w.heap.size w wc))
 case first =>
  have H := a6.out
  clear a6
  by_cases c4 : a0 < 1
  ·
   rw [if_pos c4] at H
   have a4 := decide_eq_true c4
   clear c4
   (first | rw [a4] | (simp only [q2r, q2u]; rw [a4]) | skip)
   have H' := am H
   clear H
   go_wp2
   go_meet
   case rel => exact ⟨_, (true), el, H', ol, ⟨pB HB.out⟩⟩
  rw [if_neg c4] at H
  have a4 := decide_eq_false c4
  clear c4
  (first | rw [a4] | (simp only [q2r, q2u]; rw [a4]) | skip)
  have H' := am H
  clear H
  go_wp2
  go_meet
  case rel => exact ⟨_, (decide (a1 < 1)), el, H', ol, ⟨pB HB.out⟩⟩
 case rest =>
  clear a6
  obtain ⟨kq, a3, rfl, HA, b1, HB⟩ := hcut
  cases kq with
  | zero => exact absurd HA.out (by simp [Ft.j0])
  | succ b0 =>
   have H := HA.out
   clear HA
   simp only [Ft.j0] at H
   by_cases c5 : a3 = true
   ·
    subst c5
    rw [if_pos rfl] at H
    try dsimp only at H
    obtain rfl := Option.some.inj H
    go_wp2
    go_ret
    exact ⟨er, pB HB.out⟩
   replace c5 := Bool.eq_false_iff.mpr c5
   subst c5
   rw [if_neg (show ¬ (false = true) by decide)] at H
   try dsimp only at H
   obtain ⟨ji6, hji6⟩ : ∃ j_ : Int, (mn a0 1048576) = j_ := ⟨_, rfl⟩
   replace H : (Ft.l0 b0 ji6 a1) = some r := by first | (rw [hji6] at H; exact H) | (simp only [hji6] at H ⊢; exact H)
   have b3 : (if 1048576 < a0 then 1048576 else a0) = ji6 := hji6
   have H' := am H
   clear H
   go_wp2
   go_loopg [0, 1] b0 (fun kq v0 v1 w' => ∃ (a2 : Int) (a5 : Int), v0 = .int .i64 a2 ∧ v1 = .int .i64 a5 ∧ q0f (Ft.l0 kq a2 a5 = some r) ∧ q0f (kq ≤ b0) ∧ q0f (Below w.heap.size w w'))
   case atStart => exact ⟨(ji6), (a1), (by first | rfl | (simp; done) | (simp only [← hji6] <;> (first | rfl | simp)) | (simp [*]; done)), el, H', ⟨Nat.le_refl _⟩, ⟨pB HB.out⟩⟩
   case round =>
    clear H'
    try clear c5
    try clear HB
    obtain ⟨a2, a5, rfl, rfl, HA, b2, HB⟩ := hrel
    cases gk with
    | zero => exact absurd HA.out (by simp [Ft.l0])
    | succ k2 =>
     have H := HA.out
     clear HA
     simp only [Ft.l0] at H
     by_cases c7 : a5 > 1
     ·
      rw [if_pos c7] at H
      have a7 := decide_eq_true c7
      clear c7
      by_cases c8 : a2 < 1048576
      ·
       rw [if_pos c8] at H
       have a8 := decide_eq_true c8
       clear c8
       have H' := am H
       clear H
       go_wp2
       go_roundg k2
       case measure => have := b1.out; have := b2.out; omega
       case rel => exact ⟨(wrap64 (a2 * 2)), (wrap64 (a5 - 1)), el, el, H', ⟨by have := b1.out; have := b2.out; omega⟩, ⟨pB HB.out⟩⟩
      rw [if_neg c8] at H
      have a8 := decide_eq_false c8
      clear c8
      obtain ⟨ji9, hji9⟩ : ∃ j_ : Int, (mn a2 1048576) = j_ := ⟨_, rfl⟩
      replace H : (some ji9) = some r := by first | (rw [hji9] at H; exact H) | (simp only [hji9] at H ⊢; exact H)
      have b4 : (if 1048576 < a2 then 1048576 else a2) = ji9 := hji9
      obtain rfl := Option.some.inj H
      go_wp2
      go_ret
      exact ⟨by first | rfl | (simp [q1t, q1s] <;> rfl) | (simp only [← hji6, ← hji9]; first | rfl | (simp [q1t, q1s] <;> rfl)) | (simp [*, q1t, q1s] <;> rfl), pB HB.out⟩
     rw [if_neg c7] at H
     have a7 := decide_eq_false c7
     clear c7
     obtain ⟨ji10, hji10⟩ : ∃ j_ : Int, (mn a2 1048576) = j_ := ⟨_, rfl⟩
     replace H : (some ji10) = some r := by first | (rw [hji10] at H; exact H) | (simp only [hji10] at H ⊢; exact H)
     have a9 : (if 1048576 < a2 then 1048576 else a2) = ji10 := hji10
     obtain rfl := Option.some.inj H
     go_wp2
     go_ret
     exact ⟨by first | rfl | (simp [q1t, q1s] <;> rfl) | (simp only [← hji6, ← hji10]; first | rfl | (simp [q1t, q1s] <;> rfl)) | (simp [*, q1t, q1s] <;> rfl), pB HB.out⟩
def F1.f (k : Nat) (b1 : List Int) (a3 : Int) (a4 : Int) (a8 : Int) (a5 : Int) (a0 : Int) (a9 : Int) (b0 : Int) (a1 : ByteArray) (a2 : Int) : Option (Int × Int × Int × Int × ByteArray × Int) := if a5 = 2 then (if a0 ≥ a3 then (some (4, a0, 0, 0, a1, 0)) else ((Ft.f k a4 a0).bind fun a6 => ((Fo.f k a2 (([a6] : List Int))).bind fun a7 => (some (1, a0, a7, 0, a1, 0))))) else (some (0, 0, 0, 0, (⟨#[]⟩ : ByteArray), 191))
def F1.T5 : Bool × List (List Nat × List Nat) := (true, [([], []), ([0], [0]), ([], []), ([], []), ([3], [3]), ([], []), ([5], [5]), ([4, 6], [4, 6]), ([7], [7]), ([2, 8, 7], [2, 8]), ([], []), ([10], [10]), ([1, 9, 11], [1, 9, 11]), ([12, 9, 0, 1, 2, 3, 4, 5, 6, 7, 8, 9, 10, 11, 12], [12]), ([13, 0, 1, 2, 3, 4, 5, 6, 7, 8, 9, 10, 11, 12, 13], [])])
def F1.B5 : List Nat := [0, 1, 0, 0, 8, 0, 32, 120, 248, 508, 0, 1024, 4095, 8191, 16383]
theorem F1.tab5 : rtab .any (opsOf Try.f56 5) = F1.T5 := by kernel_rfl
theorem F1.bits5 : q4j F1.T5.2 F1.B5 = true := by kernel_rfl
set_option maxHeartbeats 8000000 in
set_option maxRecDepth 100000 in
theorem F1.calls (k : Nat) (c8 : Option Addr) (d2 : Nat) (b6 : List Int) (c6 : Int) (b8 : Int) (c9 : Int) (c7 : Int) (b1 : Int) (d0 : Int) (d1 : Int) (b5 : ByteArray) (a2 : Int) (r1 : Int) (r2 : Int) (r3 : Int) (r4 : Int) (r5 : ByteArray) (r6 : Int) (w : World) (e1 : Kd.C (Kd.int .i64) w c8 b6.length b6) (e0 : b6.length ≤ d2) (h : F1.f k b6 c6 b8 c9 c7 b1 d0 d1 b5 a2 = some (r1, r2, r3, r4, r5, r6)) :
  Calls Try.prog 56 #[.agg #[.slice c8 b6.length d2, .int .i64 c6, .int .i64 b8, .int .i64 c9], .agg #[.int .i64 c7, .int .i64 b1, .int .i64 d0, .int .i64 d1, .string b5], .int .i64 a2] w fun e w' => e = .returned (.tuple #[.agg #[.int .i64 r1, .int .i64 r2, .int .i64 r3, .int .i64 r4, .string r5], .int .i64 r6]) ∧ Below w.heap.size w w' := by
 have k8 := Try.underlying49
 have k9 := Try.underlying51
 have i3 := am e1
 have i2 := am e0
 clear e1 e0
 have HB := am (Below.refl w.heap.size w)
 unfold F1.f at h
 have H := h
 clear h
 by_cases c4 : c7 = 2
 ·
  rw [if_pos c4] at H
  obtain ⟨h8, h9⟩ := qt c4
  clear c4
  by_cases c5 : b1 ≥ c6
  ·
   rw [if_pos c5] at H
   have i0 := decide_eq_true c5
   clear c5
   simp only [Option.some.injEq, Prod.mk.injEq] at H
   obtain ⟨rfl, rfl, rfl, rfl, rfl, rfl⟩ := H
   go_enter Try.func56, Try.ntmps56
   go_wp2_with (first | ((with_reducible refine gD 3 ?_); refine bz 3 #[.slice c8 b6.length d2, .int .i64 c6, .int .i64 b8, .int .i64 c9] 49 HB ?_; clear HB; intro b4 hg w6 hb a4 d6 HB; clear hb hg) | ((with_reducible refine gD 4 ?_); refine bz 4 #[.int .i64 c7, .int .i64 b1, .int .i64 d0, .int .i64 d1, .string b5] 51 HB ?_; clear HB; intro b2 hg w7 hb a5 d7 HB; have b3 := nL hg a4; have b0 := nG hg a4; replace a4 := kB a4 hb; clear hb hg) | ((with_reducible refine gD 6 ?_); refine bz 6 #[.int .i64 0, .int .i64 0, .int .i64 0, .int .i64 0, .string (⟨#[]⟩ : ByteArray)] 51 HB ?_; clear HB; intro a3 hg w8 hb a6 d8 HB; have a1 := nL hg a4; have a7 := nG hg a4; replace a4 := kB a4 hb; have a0 := nL hg a5; have a9 := nG hg a5; replace a5 := kB a5 hb; clear hb hg; have k2 := nn b0; have i9 := nn a0; have e8 := y5 a5; have j0 := nn a1; have e9 := y4 a4; have f0 := y5 a6))
   refine bodyPost_ret (q1a rfl _ _ a3 51 #[.int .i64 4, .int .i64 b1, .int .i64 0, .int .i64 0, .string b5] (0, 0) _ rfl (pP a6.out) Try.underlying51 rfl (by kernel_rfl)) rfl ?_
   exact ⟨er, pB HB.out⟩
  rw [if_neg c5] at H
  have i0 := decide_eq_false c5
  clear c5
  replace H := Option.bind_eq_some_iff.mp H
  obtain ⟨d3, e2, H⟩ := H
  try dsimp only at H
  have j7 := am e2
  clear e2
  obtain ⟨y985, hy985⟩ : ∃ y_ : List Int, y_ = (([d3] : List Int)) := ⟨_, rfl⟩
  replace H : ((Fo.f k a2 y985).bind fun d5 => (some (1, b1, d5, 0, b5, 0))) = some (r1, r2, r3, r4, r5, r6) := by first | (rw [hy985]; with_reducible exact H) | (have h7 := (Option.bind_some _ _).symm.trans H; rw [hy985]; with_reducible exact h7) | (have h7 := (Option.bind_some _ _).symm.trans H; with_reducible exact h7) | with_reducible exact H | (rw [hy985]; exact H) | exact H
  have d9 := am hy985
  clear hy985
  replace H := Option.bind_eq_some_iff.mp H
  obtain ⟨d5, e3, H⟩ := H
  try dsimp only at H
  have j8 := am e3
  clear e3
  simp only [Option.some.injEq, Prod.mk.injEq] at H
  obtain ⟨rfl, rfl, rfl, rfl, rfl, rfl⟩ := H
  go_enter Try.func56, Try.ntmps56
  try go_wp2_with (first | ((with_reducible refine gD 3 ?_); refine bz 3 #[.slice c8 b6.length d2, .int .i64 c6, .int .i64 b8, .int .i64 c9] 49 HB ?_; clear HB; intro b4 hg l2 hb a4 d6 HB; clear hb hg) | ((with_reducible refine gD 4 ?_); refine bz 4 #[.int .i64 c7, .int .i64 b1, .int .i64 d0, .int .i64 d1, .string b5] 51 HB ?_; clear HB; intro b2 hg l3 hb a5 d7 HB; have b3 := nL hg a4; have b0 := nG hg a4; replace a4 := kB a4 hb; clear hb hg) | ((with_reducible refine gD 6 ?_); refine bz 6 #[.int .i64 0, .int .i64 0, .int .i64 0, .int .i64 0, .string (⟨#[]⟩ : ByteArray)] 51 HB ?_; clear HB; intro a3 hg l1 hb a6 d8 HB; have a1 := nL hg a4; have a7 := nG hg a4; replace a4 := kB a4 hb; have a0 := nL hg a5; have a9 := nG hg a5; replace a5 := kB a5 hb; clear hb hg; have j1 := nn b0; have j2 := nn a0; have f1 := y5 a5; have j3 := nn a1; have f2 := y4 a4))
  replace a4 := am (q0g a4.out)
  replace a5 := am (q0g a5.out)
  replace a6 := am (q0g a6.out)
  replace HB := am (q0a HB.out)
  refine q2i (n := 15) (S := fun w' => w'.cell? ⟨b2, 0, none⟩ = some (.int .i64 c7) ∧ w'.cell? ⟨b2, 1, none⟩ = some (.int .i64 b1) ∧ w'.cell? ⟨b2, 2, none⟩ = some (.int .i64 d0) ∧ w'.cell? ⟨b2, 3, none⟩ = some (.int .i64 d1) ∧ w'.cell? ⟨b2, 4, none⟩ = some (.string b5) ∧ w'.cell? ⟨b4, 0, none⟩ = some (.slice c8 b6.length d2) ∧ w'.cell? ⟨b4, 1, none⟩ = some (.int .i64 c6) ∧ w'.cell? ⟨b4, 2, none⟩ = some (.int .i64 b8) ∧ w'.cell? ⟨b4, 3, none⟩ = some (.int .i64 c9)) (ds := []) (ba 15 0) (by kernel_rfl) rfl rfl ⟨bc a5.out, bc a5.out, bc a5.out, bc a5.out, bc a5.out, bc a4.out, bc a4.out, bc a4.out, bc a4.out⟩ (fun a8 => ?_); refine q2l F1.tab5 F1.bits5 (fun b9 e7 => ?_)
  generalize l1.drew = l4 at a4 a5 a6 HB a8 ⊢
  refine pu 0 24 (ba 15 1) b9 ?_
  refine pu 2 26 (ba 15 5) b9 ?_
  refine pu 3 27 (ba 15 13) b9 ?_
  refine pu 5 29 (ba 15 45) b9 ?_
  refine pu 10 34 (ba 15 1069) b9 ?_
  refine tk 1 25 (ba 15 1071) b9 e7 a8 ?_
  refine tk 4 28 (ba 15 1087) b9 e7 a8 ?_
  refine tk 6 30 (ba 15 1151) b9 e7 a8 ?_
  refine tk 11 35 (ba 15 3199) b9 e7 a8 ?_
  refine one_ (i := 7) (N := some 31) (ba 15 3327) rfl rfl (one_of b9.out (by kernel_rfl)) (by decide) (fun K hK => ?_)
  refine q2c Try.func83 (by kernel_rfl) rfl #[.int .i64 b8, .int .i64 b1] (by rfl) rfl rfl (by (try simp only [List.map_toArray, List.map_cons, List.map_nil]); first | done | rfl | (simp only [List.length_drop, List.length_take]; rfl)) ?_
  with_reducible refine (Ft.calls k b8 b1 d3 _ j7.out).mono ?_
  rintro e l5 ⟨rfl, hb⟩
  refine ⟨_, rfl, ?_⟩
  replace a4 := kB a4 hb
  replace a5 := kB a5 hb
  replace a6 := kB a6 hb
  replace HB := bS HB hb
  (try clear hb)
  (try clear hb2)
  (try clear hk)
  (try clear hi)
  refine hK.out _ _ ⟨bc a5.out, bc a5.out, bc a5.out, bc a5.out, bc a5.out, bc a4.out, bc a4.out, bc a4.out, bc a4.out⟩ (fun a8 => ?_)
  clear hK K
  refine nh ?_
  refine one_ (i := 8) (N := some 32) (ba 15 3583) rfl rfl (one_of b9.out (by kernel_rfl)) (by decide) (fun K hK => ?_)
  refine Kd.R_lit_step (Kd.int .i64) _ 3 ?hg (N := 32) ?hd (xs := ([d3] : List Int)) (inner := [.int .i64 d3]) (ok := fun _ => True) (okp := fun _ => True) ?hr ?hp (fun _ hk => hk) trivial (Below.refl _ _) (Nat.le_refl _) (by simp) ?_; (case hd => rfl); (case hg => rfl); (case hr => first | (go_simp; done) | (go_simp; rfl)); (case hp => exact (Reps.one (show Kd.M (Kd.int .i64) _ _ _ d3 [.int .i64 d3] from rfl) (Reps.none _ _)))
  intro l0 l6 d4 hb k1 e5
  clear k1 e5
  (first | rw [← d9.out] at d4 | (simp only [Int.reduceToNat] at d4; rw [← d9.out] at d4))
  have b7 := am (Kd.R_lower d4 (q0p (pB HB.out)))
  replace a4 := kB a4 hb
  replace a5 := kB a5 hb
  replace a6 := kB a6 hb
  replace HB := bS HB hb
  clear hb d4
  obtain ⟨h6, i1, e4⟩ := Kd.R_slice b7.out
  (first | subst e4 | (injection e4 with f1_ f2_ f3_; have j9 := f1_.symm; have k0 := f3_.symm; clear f1_ f2_ f3_; subst j9; subst k0))
  refine hK.out _ _ ⟨bc a5.out, bc a5.out, bc a5.out, bc a5.out, bc a5.out, bc a4.out, bc a4.out, bc a4.out, bc a4.out⟩ (fun a8 => ?_)
  clear hK K
  refine nh ?_
  refine one_ (i := 9) (N := some 33) (ba 15 4095) rfl rfl (one_of b9.out (by kernel_rfl)) (by decide) (fun K hK => ?_)
  refine q2c Try.func75 (by kernel_rfl) rfl #[.int .i64 a2, .slice h6 y985.length i1] (by rfl) rfl rfl (by (try simp only [List.map_toArray, List.map_cons, List.map_nil]); first | done | rfl | (simp only [List.length_drop, List.length_take]; rfl)) ?_
  with_reducible refine (Fo.calls k a2 _ _ y985 d5 _ ?side1 ?side2 j8.out).mono ?_
  (case side1 => exact pC ((Kd.R_reads' b7.out).2.2))
  (case side2 => exact (Kd.R_reads' b7.out).2.1)
  rintro e e6 ⟨rfl, hb⟩
  refine ⟨_, rfl, ?_⟩
  replace b7 := am (Kd.R_below (pR b7.out) hb)
  replace a4 := kB a4 hb
  replace a5 := kB a5 hb
  replace a6 := kB a6 hb
  replace HB := bS HB hb
  (try clear hb)
  (try clear hb2)
  (try clear hk)
  (try clear hi)
  refine hK.out _ _ ⟨bc a5.out, bc a5.out, bc a5.out, bc a5.out, bc a5.out, bc a4.out, bc a4.out, bc a4.out, bc a4.out⟩ (fun a8 => ?_)
  clear hK K
  refine nh ?_
  refine pu 12 36 (ba 15 8191) b9 ?_
  refine one_ (i := 13) (N := none) (ba 15 16383) rfl rfl (one_of b9.out (by kernel_rfl)) (by decide) (fun K hK => ?_)
  have k3 : e6.cell? ⟨a3, 0, none⟩ = some (.int .i64 0) := bc a6.out
  have i4 := z1 a6.out
  have g5 := a1.out
  have g6 := a0.out
  have f5 := a7.out
  have f6 := a9.out
  have k4 : e6.cell? ⟨a3, 1, none⟩ = some (.int .i64 0) := bc a6.out
  have i5 := q0k a6.out 1
  have g7 := a1.out
  have g8 := a0.out
  have f7 := a7.out
  have f8 := a9.out
  have k5 : e6.cell? ⟨a3, 2, none⟩ = some (.int .i64 0) := bc a6.out
  have i6 := q0k a6.out 2
  have g9 := a1.out
  have h0 := a0.out
  have f9 := a7.out
  have g0 := a9.out
  have k6 : e6.cell? ⟨a3, 3, none⟩ = some (.int .i64 0) := bc a6.out
  have i7 := q0k a6.out 3
  have h2 := a1.out
  have h3 := a0.out
  have g1 := a7.out
  have g2 := a9.out
  have k7 : e6.cell? ⟨a3, 4, none⟩ = some (.string (⟨#[]⟩ : ByteArray)) := bc a6.out
  have i8 := q0k a6.out 4
  have h4 := a1.out
  have h5 := a0.out
  have g3 := a7.out
  have g4 := a9.out
  refine skip_ (w1 := ?_) (by rfl) rfl ?_ ?_
  rotate_left
  ·
   go_simp
   rfl
  refine hK.out _ _ ⟨((cell_far (p := ⟨a3, _, none⟩) a0.out _).trans (((cell_far (p := ⟨a3, _, none⟩) a0.out _).trans (((cell_far (p := ⟨a3, _, none⟩) a0.out _).trans (((cell_far (p := ⟨a3, _, none⟩) a0.out _).trans (((cell_far (p := ⟨a3, _, none⟩) a0.out _).trans (a8.1)))))))))), ((cell_far (p := ⟨a3, _, none⟩) a0.out _).trans (((cell_far (p := ⟨a3, _, none⟩) a0.out _).trans (((cell_far (p := ⟨a3, _, none⟩) a0.out _).trans (((cell_far (p := ⟨a3, _, none⟩) a0.out _).trans (((cell_far (p := ⟨a3, _, none⟩) a0.out _).trans (a8.2.1)))))))))), ((cell_far (p := ⟨a3, _, none⟩) a0.out _).trans (((cell_far (p := ⟨a3, _, none⟩) a0.out _).trans (((cell_far (p := ⟨a3, _, none⟩) a0.out _).trans (((cell_far (p := ⟨a3, _, none⟩) a0.out _).trans (((cell_far (p := ⟨a3, _, none⟩) a0.out _).trans (a8.2.2.1)))))))))), ((cell_far (p := ⟨a3, _, none⟩) a0.out _).trans (((cell_far (p := ⟨a3, _, none⟩) a0.out _).trans (((cell_far (p := ⟨a3, _, none⟩) a0.out _).trans (((cell_far (p := ⟨a3, _, none⟩) a0.out _).trans (((cell_far (p := ⟨a3, _, none⟩) a0.out _).trans (a8.2.2.2.1)))))))))), ((cell_far (p := ⟨a3, _, none⟩) a0.out _).trans (((cell_far (p := ⟨a3, _, none⟩) a0.out _).trans (((cell_far (p := ⟨a3, _, none⟩) a0.out _).trans (((cell_far (p := ⟨a3, _, none⟩) a0.out _).trans (((cell_far (p := ⟨a3, _, none⟩) a0.out _).trans (a8.2.2.2.2.1)))))))))), ((cell_far (p := ⟨a3, _, none⟩) a1.out _).trans (((cell_far (p := ⟨a3, _, none⟩) a1.out _).trans (((cell_far (p := ⟨a3, _, none⟩) a1.out _).trans (((cell_far (p := ⟨a3, _, none⟩) a1.out _).trans (((cell_far (p := ⟨a3, _, none⟩) a1.out _).trans (a8.2.2.2.2.2.1)))))))))), ((cell_far (p := ⟨a3, _, none⟩) a1.out _).trans (((cell_far (p := ⟨a3, _, none⟩) a1.out _).trans (((cell_far (p := ⟨a3, _, none⟩) a1.out _).trans (((cell_far (p := ⟨a3, _, none⟩) a1.out _).trans (((cell_far (p := ⟨a3, _, none⟩) a1.out _).trans (a8.2.2.2.2.2.2.1)))))))))), ((cell_far (p := ⟨a3, _, none⟩) a1.out _).trans (((cell_far (p := ⟨a3, _, none⟩) a1.out _).trans (((cell_far (p := ⟨a3, _, none⟩) a1.out _).trans (((cell_far (p := ⟨a3, _, none⟩) a1.out _).trans (((cell_far (p := ⟨a3, _, none⟩) a1.out _).trans (a8.2.2.2.2.2.2.2.1)))))))))), ((cell_far (p := ⟨a3, _, none⟩) a1.out _).trans (((cell_far (p := ⟨a3, _, none⟩) a1.out _).trans (((cell_far (p := ⟨a3, _, none⟩) a1.out _).trans (((cell_far (p := ⟨a3, _, none⟩) a1.out _).trans (((cell_far (p := ⟨a3, _, none⟩) a1.out _).trans (a8.2.2.2.2.2.2.2.2))))))))))⟩ (fun a8 => ?_)
  clear hK K
  refine pu 14 7 (ba 15 32767) b9 ?_
  refine q2a (q3p b9.out (by kernel_rfl)) ?_
  try go_wp2
  refine bodyPost_ret (q1a rfl _ _ a3 51 #[.int .i64 1, .int .i64 b1, .int .i64 d5, .int .i64 0, .string b5] (0, 0) _ rfl (pP a6.out) Try.underlying51 rfl (by kernel_rfl)) rfl ?_
  exact ⟨er, pB HB.out⟩
 rw [if_neg c4] at H
 obtain ⟨h8, h9⟩ := qf c4
 simp only [Option.some.injEq, Prod.mk.injEq] at H
 obtain ⟨rfl, rfl, rfl, rfl, rfl, rfl⟩ := H
 go_enter Try.func56, Try.ntmps56
 go_wp2_with (first | ((with_reducible refine gD 3 ?_); refine bz 3 #[.slice c8 b6.length d2, .int .i64 c6, .int .i64 b8, .int .i64 c9] 49 HB ?_; clear HB; intro b4 hg l7 hb a4 d6 HB; clear hb hg) | ((with_reducible refine gD 4 ?_); refine bz 4 #[.int .i64 c7, .int .i64 b1, .int .i64 d0, .int .i64 d1, .string b5] 51 HB ?_; clear HB; intro b2 hg l8 hb a5 d7 HB; have b3 := nL hg a4; have b0 := nG hg a4; replace a4 := kB a4 hb; clear hb hg) | ((with_reducible refine gD 6 ?_); refine bz 6 #[.int .i64 0, .int .i64 0, .int .i64 0, .int .i64 0, .string (⟨#[]⟩ : ByteArray)] 51 HB ?_; clear HB; intro a3 hg l9 hb a6 d8 HB; have a1 := nL hg a4; have a7 := nG hg a4; replace a4 := kB a4 hb; have a0 := nL hg a5; have a9 := nG hg a5; replace a5 := kB a5 hb; clear hb hg; have j4 := nn b0; have j5 := nn a0; have f3 := y5 a5; have j6 := nn a7; have f4 := y5 a6))
 refine bodyPost_ret (q1a rfl _ _ a3 51 #[.int .i64 0, .int .i64 0, .int .i64 0, .int .i64 0, .string (⟨#[]⟩ : ByteArray)] (0, 0) _ rfl (pP a6.out) Try.underlying51 rfl (by kernel_rfl)) rfl ?_
 exact ⟨er, pB HB.out⟩
def Fv.f (k : Nat) (b0 : List Int) (a7 : Int) (a8 : Int) (a9 : Int) (a3 : Int) (a4 : Int) (a1 : Int) (a5 : Int) (a6 : ByteArray) (a2 : Int) : Option (Int × Int × Int × Int × ByteArray) := if a3 = 2 then ((Fo.f k a2 ([] : List Int)).bind fun b1 => (if a1 > b1 then (some (a3, a4, a1, a5, a6)) else ((F1.f k b0 a7 a8 a9 a3 a4 a1 a5 a6 a1).bind fun a0 => (some (a0.1, a0.2.1, a0.2.2.1, a0.2.2.2.1, a0.2.2.2.2.1))))) else (some (a3, a4, a1, a5, a6))
def Fv.T1 : Bool × List (List Nat × List Nat) := (true, [([], []), ([0], [0]), ([1], [1]), ([2], [2]), ([3], [3]), ([4, 3], [3, 4]), ([3], [3]), ([6, 3, 3], [3, 6]), ([5, 7, 3], [3, 5, 7]), ([3, 8], [3, 8])])
def Fv.B1 : List Nat := [0, 1, 3, 7, 15, 31, 15, 79, 255, 511]
theorem Fv.tab1 : rtab .any (opsOf Try.f38 1) = Fv.T1 := by kernel_rfl
theorem Fv.bits1 : q4j Fv.T1.2 Fv.B1 = true := by kernel_rfl
set_option maxHeartbeats 8000000 in
set_option maxRecDepth 100000 in
theorem Fv.calls (k : Nat) (c9 : Option Addr) (d3 : Nat) (b7 : List Int) (b9 : Int) (c7 : Int) (c8 : Int) (b3 : Int) (b4 : Int) (b0 : Int) (b5 : Int) (b6 : ByteArray) (a2 : Int) (r1 : Int) (r2 : Int) (r3 : Int) (r4 : Int) (r5 : ByteArray) (w : World) (d9 : Kd.C (Kd.int .i64) w c9 b7.length b7) (d8 : b7.length ≤ d3) (h : Fv.f k b7 b9 c7 c8 b3 b4 b0 b5 b6 a2 = some (r1, r2, r3, r4, r5)) :
  Calls Try.prog 38 #[.agg #[.slice c9 b7.length d3, .int .i64 b9, .int .i64 c7, .int .i64 c8], .agg #[.int .i64 b3, .int .i64 b4, .int .i64 b0, .int .i64 b5, .string b6], .int .i64 a2] w fun e w' => e = .returned (.agg #[.int .i64 r1, .int .i64 r2, .int .i64 r3, .int .i64 r4, .string r5]) ∧ Below w.heap.size w w' := by
 have i3 := Try.underlying49
 have i4 := Try.underlying51
 have e8 := am d9
 have e7 := am d8
 clear d9 d8
 have HB := am (Below.refl w.heap.size w)
 unfold Fv.f at h
 have H := h
 clear h
 by_cases c4 : b3 = 2
 ·
  rw [if_pos c4] at H
  obtain ⟨g2, g3⟩ := qt c4
  clear c4
  replace H := Option.bind_eq_some_iff.mp H
  obtain ⟨e1, g6, H⟩ := H
  try dsimp only at H
  have A5 := am g6
  clear g6
  by_cases c6 : b0 > e1
  ·
   rw [if_pos c6] at H
   have g4 := decide_eq_true c6
   clear c6
   simp only [Option.some.injEq, Prod.mk.injEq] at H
   obtain ⟨rfl, rfl, rfl, rfl, rfl⟩ := H
   go_enter Try.func38, Try.ntmps38
   try go_wp2_with (first | ((with_reducible refine gD 3 ?_); refine bz 3 #[.slice c9 b7.length d3, .int .i64 b9, .int .i64 c7, .int .i64 c8] 49 HB ?_; clear HB; intro d7 hg w7 hb a1 d4 HB; clear hb hg) | ((with_reducible refine gD 4 ?_); refine bz 4 #[.int .i64 b3, .int .i64 b4, .int .i64 b0, .int .i64 b5, .string b6] 51 HB ?_; clear HB; intro a4 hg w8 hb a0 d5 HB; have b1 := nL hg a1; have a8 := nG hg a1; replace a1 := kB a1 hb; clear hb hg) | ((with_reducible refine gD 6 ?_); refine bz 6 #[.int .i64 0, .int .i64 0, .int .i64 0, .int .i64 0, .string (⟨#[]⟩ : ByteArray)] 51 HB ?_; clear HB; intro b8 hg w9 hb a3 d6 HB; have b2 := nL hg a1; have a9 := nG hg a1; replace a1 := kB a1 hb; have a5 := nL hg a0; replace a0 := kB a0 hb; clear hb hg))
   replace a1 := am (q0g a1.out)
   replace a0 := am (q0g a0.out)
   replace a3 := am (q0g a3.out)
   replace HB := am (q0a HB.out)
   refine q2i (n := 10) (S := fun w' => w'.cell? ⟨a4, 0, none⟩ = some (.int .i64 b3) ∧ w'.cell? ⟨a4, 1, none⟩ = some (.int .i64 b4) ∧ w'.cell? ⟨a4, 2, none⟩ = some (.int .i64 b0) ∧ w'.cell? ⟨a4, 3, none⟩ = some (.int .i64 b5) ∧ w'.cell? ⟨a4, 4, none⟩ = some (.string b6)) (ds := []) (ba 10 0) (by kernel_rfl) rfl rfl ⟨bc a0.out, bc a0.out, bc a0.out, bc a0.out, bc a0.out⟩ (fun a6 => ?_); refine q2l Fv.tab1 Fv.bits1 (fun a7 e0 => ?_)
   generalize w9.drew = i7 at a1 a0 a3 HB a6 ⊢
   refine pu 0 9 (ba 10 1) a7 ?_
   refine tk 1 10 (ba 10 3) a7 e0 a6 ?_
   refine pu 2 11 (ba 10 7) a7 ?_
   refine pu 3 12 (ba 10 15) a7 ?_
   refine pu 4 13 (ba 10 31) a7 ?_
   refine pu 6 15 (ba 10 95) a7 ?_
   refine tk 5 14 (ba 10 127) a7 e0 a6 ?_
   refine one_ (i := 7) (N := some 16) (ba 10 255) rfl rfl (one_of a7.out (by kernel_rfl)) (by decide) (fun K hK => ?_)
   refine q2c Try.func75 (by kernel_rfl) rfl #[.int .i64 a2, .slice none 0 0] (by rfl) rfl rfl (by (try simp only [List.map_toArray, List.map_cons, List.map_nil]); first | done | rfl | (simp only [List.length_drop, List.length_take]; rfl)) ?_
   refine (Fo.calls k a2 _ _ ([] : List Int) e1 _ ?side1 ?side2 A5.out).mono ?_
   (case side1 => exact Kd.C_nil _ _)
   (case side2 => exact Nat.le_refl _)
   rintro e i8 ⟨rfl, hb⟩
   refine ⟨_, rfl, ?_⟩
   replace a1 := kB a1 hb
   replace a0 := kB a0 hb
   replace a3 := kB a3 hb
   replace HB := bS HB hb
   (try clear hb)
   (try clear hb2)
   (try clear hk)
   (try clear hi)
   refine hK.out _ _ ⟨bc a0.out, bc a0.out, bc a0.out, bc a0.out, bc a0.out⟩ (fun a6 => ?_)
   clear hK K
   refine nh ?_
   refine pu 8 17 (ba 10 511) a7 ?_
   refine pu 9 18 (ba 10 1023) a7 ?_
   refine q2a (q3p a7.out (by kernel_rfl)) ?_
   have g9 := nn a8
   have h0 := nn a5
   have f4 := y5 a0
   have h2 := nn a9
   have f5 := y5 a3
   try go_wp2
   refine bodyPost_ret (results_cell_row rfl _ _ b8 51 #[.int .i64 b3, .int .i64 b4, .int .i64 b0, .int .i64 b5, .string b6] (0, 0) _ rfl (pP a3.out) Try.underlying51 rfl (by kernel_rfl)) rfl ?_
   exact ⟨er, pB HB.out⟩
  rw [if_neg c6] at H
  have g4 := decide_eq_false c6
  clear c6
  replace H := Option.bind_eq_some_iff.mp H
  obtain ⟨⟨e9, f0, f1, f2, f3, g5⟩, e5, H⟩ := H
  try dsimp only at H
  have i2 := am e5
  clear e5
  simp only [Option.some.injEq, Prod.mk.injEq] at H
  obtain ⟨rfl, rfl, rfl, rfl, rfl⟩ := H
  go_enter Try.func38, Try.ntmps38
  try go_wp2_with (first | ((with_reducible refine gD 3 ?_); refine bz 3 #[.slice c9 b7.length d3, .int .i64 b9, .int .i64 c7, .int .i64 c8] 49 HB ?_; clear HB; intro d7 hg i9 hb a1 d4 HB; clear hb hg) | ((with_reducible refine gD 4 ?_); refine bz 4 #[.int .i64 b3, .int .i64 b4, .int .i64 b0, .int .i64 b5, .string b6] 51 HB ?_; clear HB; intro a4 hg j0 hb a0 d5 HB; have b1 := nL hg a1; have a8 := nG hg a1; replace a1 := kB a1 hb; clear hb hg) | ((with_reducible refine gD 6 ?_); refine bz 6 #[.int .i64 0, .int .i64 0, .int .i64 0, .int .i64 0, .string (⟨#[]⟩ : ByteArray)] 51 HB ?_; clear HB; intro b8 hg i5 hb a3 d6 HB; have b2 := nL hg a1; have a9 := nG hg a1; replace a1 := kB a1 hb; have a5 := nL hg a0; replace a0 := kB a0 hb; clear hb hg))
  replace a1 := am (q0g a1.out)
  replace a0 := am (q0g a0.out)
  replace a3 := am (q0g a3.out)
  replace HB := am (q0a HB.out)
  refine q2i (n := 10) (S := fun w' => w'.cell? ⟨a4, 0, none⟩ = some (.int .i64 b3) ∧ w'.cell? ⟨a4, 1, none⟩ = some (.int .i64 b4) ∧ w'.cell? ⟨a4, 2, none⟩ = some (.int .i64 b0) ∧ w'.cell? ⟨a4, 3, none⟩ = some (.int .i64 b5) ∧ w'.cell? ⟨a4, 4, none⟩ = some (.string b6)) (ds := []) (ba 10 0) (by kernel_rfl) rfl rfl ⟨bc a0.out, bc a0.out, bc a0.out, bc a0.out, bc a0.out⟩ (fun a6 => ?_); refine q2l Fv.tab1 Fv.bits1 (fun a7 e0 => ?_)
  generalize i5.drew = j1 at a1 a0 a3 HB a6 ⊢
  refine pu 0 9 (ba 10 1) a7 ?_
  refine tk 1 10 (ba 10 3) a7 e0 a6 ?_
  refine pu 2 11 (ba 10 7) a7 ?_
  refine pu 3 12 (ba 10 15) a7 ?_
  refine pu 4 13 (ba 10 31) a7 ?_
  refine pu 6 15 (ba 10 95) a7 ?_
  refine tk 5 14 (ba 10 127) a7 e0 a6 ?_
  refine one_ (i := 7) (N := some 16) (ba 10 255) rfl rfl (one_of a7.out (by kernel_rfl)) (by decide) (fun K hK => ?_)
  refine q2c Try.func75 (by kernel_rfl) rfl #[.int .i64 a2, .slice none 0 0] (by rfl) rfl rfl (by (try simp only [List.map_toArray, List.map_cons, List.map_nil]); first | done | rfl | (simp only [List.length_drop, List.length_take]; rfl)) ?_
  refine (Fo.calls k a2 _ _ ([] : List Int) e1 _ ?side1 ?side2 A5.out).mono ?_
  (case side1 => exact Kd.C_nil _ _)
  (case side2 => exact Nat.le_refl _)
  rintro e j2 ⟨rfl, hb⟩
  refine ⟨_, rfl, ?_⟩
  replace a1 := kB a1 hb
  replace a0 := kB a0 hb
  replace a3 := kB a3 hb
  replace HB := bS HB hb
  (try clear hb)
  (try clear hb2)
  (try clear hk)
  (try clear hi)
  refine hK.out _ _ ⟨bc a0.out, bc a0.out, bc a0.out, bc a0.out, bc a0.out⟩ (fun a6 => ?_)
  clear hK K
  refine nh ?_
  refine pu 8 17 (ba 10 511) a7 ?_
  refine pu 9 18 (ba 10 1023) a7 ?_
  refine q2a (q3p a7.out (by kernel_rfl)) ?_
  have h3 := nn b1
  have h4 := nn b2
  have f6 := y4 a1
  have h5 := nn a5
  have f7 := y5 a0
  try go_wp2_with (first | ((with_reducible refine gC 56 ?_); refine gL 25 Try.func56 #[.agg #[.slice c9 b7.length d3, .int .i64 b9, .int .i64 c7, .int .i64 c8], .agg #[.int .i64 b3, .int .i64 b4, .int .i64 b0, .int .i64 b5, .string b6], .int .i64 b0] ?_; (with_reducible refine (F1.calls k _ _ b7 b9 c7 c8 b3 b4 b0 b5 b6 b0 e9 f0 f1 f2 f3 g5 _ ?side1 ?side2 i2.out).mono ?_); (case side1 => exact (Kd.C_below e8.out (pB HB.out))); (case side2 => exact e7.out); rintro e j3 ⟨rfl, hb⟩; refine ⟨_, rfl, ?_⟩; replace a1 := kB a1 hb; replace a0 := kB a0 hb; replace a3 := kB a3 hb; replace HB := bS HB hb; (try clear hb)) | ((with_reducible refine gD 7 ?_); refine bz 7 #[.int .i64 0, .int .i64 0, .int .i64 0, .int .i64 0, .string (⟨#[]⟩ : ByteArray)] 51 HB ?_; clear HB; intro g8 hg j4 hb e6 g7 HB; have e2 := nL hg a1; have d0 := nG hg a1; replace a1 := kB a1 hb; have e3 := nL hg a0; have d1 := nG hg a0; replace a0 := kB a0 hb; have e4 := nL hg a3; have d2 := nG hg a3; replace a3 := kB a3 hb; clear hb hg; have h6 := nn d0; have h7 := nn d1; have h8 := nn d2; have f8 := y5 e6; have f9 := y5 a3))
  refine bodyPost_ret (results_cell_row rfl _ _ b8 51 #[.int .i64 e9, .int .i64 f0, .int .i64 f1, .int .i64 f2, .string f3] (0, 0) _ rfl (pP a3.out) Try.underlying51 rfl (by kernel_rfl)) rfl ?_
  exact ⟨er, pB HB.out⟩
 rw [if_neg c4] at H
 obtain ⟨g2, g3⟩ := qf c4
 simp only [Option.some.injEq, Prod.mk.injEq] at H
 obtain ⟨rfl, rfl, rfl, rfl, rfl⟩ := H
 go_enter Try.func38, Try.ntmps38
 try go_wp2_with (first | ((with_reducible refine gD 3 ?_); refine bz 3 #[.slice c9 b7.length d3, .int .i64 b9, .int .i64 c7, .int .i64 c8] 49 HB ?_; clear HB; intro d7 hg j5 hb a1 d4 HB; clear hb hg) | ((with_reducible refine gD 4 ?_); refine bz 4 #[.int .i64 b3, .int .i64 b4, .int .i64 b0, .int .i64 b5, .string b6] 51 HB ?_; clear HB; intro a4 hg j6 hb a0 d5 HB; have b1 := nL hg a1; have a8 := nG hg a1; replace a1 := kB a1 hb; clear hb hg) | ((with_reducible refine gD 6 ?_); refine bz 6 #[.int .i64 0, .int .i64 0, .int .i64 0, .int .i64 0, .string (⟨#[]⟩ : ByteArray)] 51 HB ?_; clear HB; intro b8 hg i6 hb a3 d6 HB; have b2 := nL hg a1; have a9 := nG hg a1; replace a1 := kB a1 hb; have a5 := nL hg a0; replace a0 := kB a0 hb; clear hb hg))
 replace a1 := am (q0g a1.out)
 replace a0 := am (q0g a0.out)
 replace a3 := am (q0g a3.out)
 replace HB := am (q0a HB.out)
 refine q2i (n := 10) (S := fun w' => w'.cell? ⟨a4, 0, none⟩ = some (.int .i64 b3) ∧ w'.cell? ⟨a4, 1, none⟩ = some (.int .i64 b4) ∧ w'.cell? ⟨a4, 2, none⟩ = some (.int .i64 b0) ∧ w'.cell? ⟨a4, 3, none⟩ = some (.int .i64 b5) ∧ w'.cell? ⟨a4, 4, none⟩ = some (.string b6)) (ds := []) (ba 10 0) (by kernel_rfl) rfl rfl ⟨bc a0.out, bc a0.out, bc a0.out, bc a0.out, bc a0.out⟩ (fun a6 => ?_); refine q2l Fv.tab1 Fv.bits1 (fun a7 e0 => ?_)
 generalize i6.drew = j7 at a1 a0 a3 HB a6 ⊢
 refine pu 0 9 (ba 10 1) a7 ?_
 refine tk 1 10 (ba 10 3) a7 e0 a6 ?_
 refine pu 2 11 (ba 10 7) a7 ?_
 refine pu 3 12 (ba 10 15) a7 ?_
 refine pe 4 13 (ba 10 31) a7 ?_
 refine pe 5 14 (ba 10 63) a7 ?_
 refine pe 6 15 (ba 10 127) a7 ?_
 refine pe 7 16 (ba 10 255) a7 ?_
 refine pe 8 17 (ba 10 511) a7 ?_
 refine pu 9 18 (ba 10 1023) a7 ?_
 refine q2a (q3p a7.out (by kernel_rfl)) ?_
 have h9 := nn a8
 have i0 := nn a5
 have g0 := y5 a0
 have i1 := nn a9
 have g1 := y5 a3
 try go_wp2
 refine bodyPost_ret (results_cell_row rfl _ _ b8 51 #[.int .i64 b3, .int .i64 b4, .int .i64 b0, .int .i64 b5, .string b6] (0, 0) _ rfl (pP a3.out) Try.underlying51 rfl (by kernel_rfl)) rfl ?_
 exact ⟨er, pB HB.out⟩
end Go.Proofs.Ytabmkighhmchmaa.X
namespace Go.Proofs.Ytabmkighhmchmaa
open Go.RowKit Go.YW.PrintWords Go.YW.PrintLast Go.YW.PrintMore
open X (S49 S51 k49 k51 q0e q0c q1u z51)
set_option linter.unusedVariables false
def cntA (ks : List Int) (xs : List S51) : Int := cntI ks (upto xs xs.length)
def q1n (xs : List S51) : Int := if cntA [3] xs = (xs.length : Int) then 1 else if 0 < cntA [4] xs then 2 else if cntA [0, 1, 2] xs = 0 then 3 else 0
def q4n (k : Nat) (t : S49) (s : S51) : Option Bool := X.Fz.f k t.f0 t.f1 t.f2 t.f3 s.f0 s.f1 s.f2 s.f3 s.f4
def q3x (k : Nat) (ts : List S49) (xs : List S51) : List (Fin xs.length) → List Int → Option Bool
 | [], _ => some true
 | x :: l, tok => (q4n k (q0e ts (x.val : Int)) (q0c xs (x.val : Int))).bind fun b =>
   if b = false then some false
   else if 0 < (q0c xs (x.val : Int)).f3 ∧ (q0c xs (x.val : Int)).f3 ∈ tok then some false
   else if (q0c xs (x.val : Int)).f0 = 5 then q3x k ts xs l ((q0c xs (x.val : Int)).f3 :: tok)
   else (readyO ts xs (x.val : Int)).bind fun b => if decide ((q0c xs (x.val : Int)).f0 = 0) = b then some false else q3x k ts xs l ((q0c xs (x.val : Int)).f3 :: tok)
def goodRight (k : Nat) (ts : List S49) (xs : List S51) : Bool := (List.finRange xs.length).all fun x => (q4n k (q0e ts (x.val : Int)) (q0c xs (x.val : Int))).isSome && ((readyO ts xs (x.val : Int)).isSome && decide (-9223372036854775808 ≤ (q0c xs (x.val : Int)).f3 ∧ (q0c xs (x.val : Int)).f3 < 9223372036854775808))
def endF (is : Int) (xs : List S51) : Bool := if is = 2 then decide (cntA [0, 1, 2] xs = 0) else if is = 0 then decide (cntA [5] xs = 0) else true
def q3y (k : Nat) (ky nm : ByteArray) (ts : List S49) (is : Int) (xs : List S51) : Option Bool :=
 if ky.size < 1 then some false else if 16 < ky.size then some false else
 (Fy.f k nm ts).bind fun e => if e ≠ 0 then some false else if xs.length ≠ ts.length then some false else
 if 1000000 < xs.length then none else if is ≠ q1n xs then some false else if goodRight k ts xs = false then none else
 (q3x k ts xs (List.finRange xs.length) []).bind fun b => if b = false then some false else some (endF is xs)
def expireO (k : Nat) (t : S49) (s : S51) (now : Int) : Option S51 := (X.Fv.f k t.f0 t.f1 t.f2 t.f3 s.f0 s.f1 s.f2 s.f3 s.f4 now).bind fun p => some ⟨p.1, p.2.1, p.2.2.1, p.2.2.2.1, p.2.2.2.2⟩
def q4k (k : Nat) (ts : List S49) (now u : Int) : Nat → Int → List S51 → Option (Int × List S51)
 | 0, _, _ => none
 | q + 1, is, zs =>
  if 0 ≤ q2o u zs (List.finRange zs.length) then
   (expireO k (q0e ts (q2o u zs (List.finRange zs.length))) (q0c zs (q2o u zs (List.finRange zs.length))) now).bind fun s =>
    (mendF ts is (zs.set (q2o u zs (List.finRange zs.length)).toNat s)).bind fun p => q4k k ts now u q p.1 p.2
  else some (is, zs)
def q3u (k : Nat) (ky nm : ByteArray) (ts : List S49) (is : Int) (xs : List S51) (now : Int) : Option (Option (Int × List S51)) :=
 (q3y k ky nm ts is xs).bind fun b => if b = false then some none else if is ≠ 0 then some (some (is, xs)) else
 (X.Fo.f k now []).bind fun u => (q4k k ts now u k is xs).bind fun p => some (some p)
def noTok (a0 : Int) (xs : List S51) : Bool := !(xs.any fun s => s.f3 == a0)
def leaseO (k : Nat) (t : S49) (s : S51) (now a0 : Int) : Option (S51 × Int) := (X.Fq.f k t.f0 t.f1 t.f2 t.f3 s.f0 s.f1 s.f2 s.f3 s.f4 now a0).bind fun p => some (⟨p.1, p.2.1, p.2.2.1, p.2.2.2.1, p.2.2.2.2.1⟩, p.2.2.2.2.2)
def leaseL (k : Nat) (ts : List S49) (xs : List S51) (now a0 : Int) : List (Fin xs.length) → Option (Option (Fin xs.length × S51))
 | [] => some none
 | x :: l => (leaseO k (q0e ts (x.val : Int)) (q0c xs (x.val : Int)) now a0).bind fun p => if p.2 = 0 then some (some (x, p.1)) else leaseL k ts xs now a0 l
def q4r (k : Nat) (ts : List S49) (xs : List S51) (now a0 : Int) : Bool := (List.finRange xs.length).all fun x => (leaseO k (q0e ts (x.val : Int)) (q0c xs (x.val : Int)) now a0).isSome
def runLeaseO (k : Nat) (ky nm : ByteArray) (ts : List S49) (is : Int) (xs : List S51) (now a0 : Int) : Option (Int × Int × List S51 × Int) :=
 (q3u k ky nm ts is xs now).bind fun o => match o with
 | none => some (1, 0, [], 0)
 | some (is', ys) => if a0 < 1 then some (1, 0, [], 0) else if 1099511627776 < a0 then some (1, 0, [], 0) else
  if noTok a0 ys = false then some (1, 0, [], 0) else if is' ≠ 0 then some (192, 0, [], 0) else if q4r k ts ys now a0 = false then none else
  (leaseL k ts ys now a0 (List.finRange ys.length)).bind fun o => match o with
  | none => some (192, 0, [], 0)
  | some (i, s) => some (0, is', ys.set i.val s, (i.val : Int))
def heldL (ts : List S49) (is : Int) (ys : List S51) (a0 : Int) (a1 : S49 → S51 → Option (S51 × Int)) : List (Fin ys.length) → Option (Int × Int × List S51)
 | [] => some (191, 0, [])
 | x :: l => if (q0c ys (x.val : Int)).f0 ≠ 2 then heldL ts is ys a0 a1 l else if (q0c ys (x.val : Int)).f3 ≠ a0 then heldL ts is ys a0 a1 l else
  (a1 (q0e ts (x.val : Int)) (q0c ys (x.val : Int))).bind fun p => if p.2 ≠ 0 then some (p.2, 0, []) else
  (mendF ts is (ys.set x.val p.1)).bind fun q => some (0, q.1, q.2)
def goodHeld (ts : List S49) (is : Int) (ys : List S51) (a0 : Int) (a1 : S49 → S51 → Option (S51 × Int)) : Bool := (List.finRange ys.length).all fun x =>
 decide ((q0c ys (x.val : Int)).f0 ≠ 2) || decide ((q0c ys (x.val : Int)).f3 ≠ a0) || (match a1 (q0e ts (x.val : Int)) (q0c ys (x.val : Int)) with | none => false | some p => decide (p.2 ≠ 0) || (mendF ts is (ys.set x.val p.1)).isSome)
def heldO (k : Nat) (ky nm : ByteArray) (ts : List S49) (is : Int) (xs : List S51) (now a0 : Int) (a1 : S49 → S51 → Option (S51 × Int)) : Option (Int × Int × List S51) :=
 (q3u k ky nm ts is xs now).bind fun o => match o with
 | none => some (1, 0, [])
 | some (is', ys) => if goodHeld ts is' ys a0 a1 = false then none else heldL ts is' ys a0 a1 (List.finRange ys.length)
def beatA (k : Nat) (now : Int) (t : S49) (s : S51) : Option (S51 × Int) := (X.Gb.f k t.f0 t.f1 t.f2 t.f3 s.f0 s.f1 s.f2 s.f3 s.f4 now).bind fun p => some (⟨p.1, p.2.1, p.2.2.1, p.2.2.2.1, p.2.2.2.2.1⟩, p.2.2.2.2.2)
def doneA (a0 : ByteArray) (t : S49) (s : S51) : Option (S51 × Int) := (X.Gc.f t.f0 t.f1 t.f2 t.f3 s.f0 s.f1 s.f2 s.f3 s.f4 a0).bind fun p => some (⟨p.1, p.2.1, p.2.2.1, p.2.2.2.1, p.2.2.2.2.1⟩, p.2.2.2.2.2)
def failA (k : Nat) (now : Int) (t : S49) (s : S51) : Option (S51 × Int) := (X.F1.f k t.f0 t.f1 t.f2 t.f3 s.f0 s.f1 s.f2 s.f3 s.f4 now).bind fun p => some (⟨p.1, p.2.1, p.2.2.1, p.2.2.2.1, p.2.2.2.2.1⟩, p.2.2.2.2.2)
def cancelO (k : Nat) (ky nm : ByteArray) (ts : List S49) (is : Int) (xs : List S51) (now : Int) : Option (Int × Int × List S51) :=
 (q3u k ky nm ts is xs now).bind fun o => match o with
 | none => some (1, 0, [])
 | some (is', ys) => if is' ≠ 0 then some (193, 0, []) else some (0, 3, ys.map q0u)
def newO (k : Nat) (ky nm : ByteArray) (ts : List S49) : Option (Int × Int × List S51) :=
 if ky.size < 1 then some (1, 0, []) else if 16 < ky.size then some (1, 0, []) else
 (Fy.f k nm ts).bind fun e => if e ≠ 0 then some (e, 0, []) else
 (mendF ts 0 (List.replicate ts.length z51)).bind fun p => some (0, p.1, p.2)
def q3v (ky nm : ByteArray) (ts : List S49) (r : Int × Int × List S51) : ByteArray × ByteArray × List S49 × Int × List S51 × Int :=
 if r.1 = 0 then (ky, nm, ts, r.2.1, r.2.2, 0) else (⟨#[]⟩, ⟨#[]⟩, [], 0, [], r.1)
namespace X
def Gj.f (k : Nat) (a0 a1 : ByteArray) (a3 : List S49) (a2 : Int) (a4 : List S51) : Option Bool := q3y k a0 a1 a3 a2 a4
def Gg.f (k : Nat) (a0 a1 : ByteArray) (a2 : List S49) : Option (ByteArray × ByteArray × List S49 × Int × List S51 × Int) := (newO k a0 a1 a2).bind fun r => some (q3v a0 a1 a2 r)
def settleR (o : Option (Int × List S51)) : Int × Int × List S51 := match o with | none => (1, 0, []) | some p => (0, p.1, p.2)
def Fw.f (k : Nat) (a0 a2 : ByteArray) (a3 : List S49) (a4 : Int) (a5 : List S51) (a1 : Int) : Option (ByteArray × ByteArray × List S49 × Int × List S51 × Int) := (q3u k a0 a2 a3 a4 a5 a1).bind fun o => some (q3v a0 a2 a3 (settleR o))
def Gk.f (k : Nat) (a0 a3 : ByteArray) (a4 : List S49) (a5 : Int) (a6 : List S51) (a1 a2 : Int) : Option (ByteArray × ByteArray × List S49 × Int × List S51 × Int × Int) := (runLeaseO k a0 a3 a4 a5 a6 a1 a2).bind fun r =>
 some (if r.1 = 0 then (a0, a3, a4, r.2.1, r.2.2.1, r.2.2.2, 0) else (⟨#[]⟩, ⟨#[]⟩, [], 0, [], 0, r.1))
def F9.f (k : Nat) (a0 a3 : ByteArray) (a4 : List S49) (a5 : Int) (a6 : List S51) (a1 a2 : Int) : Option (ByteArray × ByteArray × List S49 × Int × List S51 × Int) := (heldO k a0 a3 a4 a5 a6 a1 a2 (beatA k a1)).bind fun r => some (q3v a0 a3 a4 r)
def Gh.f (k : Nat) (a0 a4 : ByteArray) (a5 : List S49) (a6 : Int) (a7 : List S51) (a1 a2 : Int) (a3 : ByteArray) : Option (ByteArray × ByteArray × List S49 × Int × List S51 × Int) := (heldO k a0 a4 a5 a6 a7 a1 a2 (doneA a3)).bind fun r => some (q3v a0 a4 a5 r)
def Gi.f (k : Nat) (a0 a3 : ByteArray) (a4 : List S49) (a5 : Int) (a6 : List S51) (a1 a2 : Int) : Option (ByteArray × ByteArray × List S49 × Int × List S51 × Int) := (heldO k a0 a3 a4 a5 a6 a1 a2 (failA k a1)).bind fun r => some (q3v a0 a3 a4 r)
def Gd.f (k : Nat) (a0 a2 : ByteArray) (a3 : List S49) (a4 : Int) (a5 : List S51) (a1 : Int) : Option (ByteArray × ByteArray × List S49 × Int × List S51 × Int) := (cancelO k a0 a2 a3 a4 a5 a1).bind fun r => some (q3v a0 a2 a3 r)
end X
end Go.Proofs.Ytabmkighhmchmaa
namespace Go.Proofs.Ytabmkighhmchmaa
open Go.RowKit Go.YW.PrintWords Go.YW.PrintLast Go.YW.PrintMore Go.YW.Sq
open X (S49 S51 k49 k51 q0e q0c q1u z51)
set_option linter.unusedVariables false
def q1c (w W : World) (A2 : Option Addr) (c2 : Nat) (xs : List S51) (v : Value) (ys : List S51) : Prop :=
 (v = .slice A2 xs.length c2 ∧ ys = xs) ∨ Kd.R k51 51 W w.heap.size (fun _ => True) v ys
theorem q1c.start (w W : World) (A2 : Option Addr) (c2 : Nat) (xs : List S51) : q1c w W A2 c2 xs (.slice A2 xs.length c2) xs := .inl ⟨rfl, rfl⟩
theorem q1c.own {w W : World} {A2 : Option Addr} {c2 : Nat} {xs : List S51} {v : Value} {ys : List S51} (h : Kd.R k51 51 W w.heap.size (fun _ => True) v ys) : q1c w W A2 c2 xs v ys := .inr h
theorem q1c.slice {w W : World} {A2 : Option Addr} {c2 : Nat} {xs : List S51} {v : Value} {ys : List S51} (h : q1c w W A2 c2 xs v ys) : ∃ A c, v = .slice A ys.length c := by
 rcases h with ⟨rfl, rfl⟩ | h
 ·
  exact ⟨_, _, rfl⟩
 exact Kd.R_slice h
theorem q1c.reads {w W : World} {A2 : Option Addr} {c2 : Nat} {xs : List S51} {A : Option Addr} {n c : Nat} {ys : List S51} (h : q1c w W A2 c2 xs (.slice A n c) ys) (HC : Kd.C k51 w A2 xs.length xs) (HB : Below w.heap.size w W) : Kd.C k51 W A ys.length ys := by
 rcases h with ⟨e, rfl⟩ | h
 ·
  injection e with e1 e2 e3
  subst e1
  exact Kd.C_below HC HB
 obtain ⟨A', c', e⟩ := Kd.R_slice h
 injection e with e1 e2 e3
 subst e1
 subst e3
 subst e2
 exact (Kd.R_reads' h).2.2
theorem q1c.below {w W W' : World} {A2 : Option Addr} {c2 : Nat} {xs : List S51} {v : Value} {ys : List S51} (h : q1c w W A2 c2 xs v ys) (hb : Below W.heap.size W W') : q1c w W' A2 c2 xs v ys :=
 h.imp id fun h => Kd.R_below h hb
theorem q1c.alloc {w W : World} {A2 : Option Addr} {c2 : Nat} {xs : List S51} {v : Value} {ys : List S51} (h : q1c w W A2 c2 xs v ys) (o : Obj) : q1c w (W.alloc o) A2 c2 xs v ys := h.imp id fun h => Kd.R_alloc h o
theorem q1c.set {w W : World} {A2 : Option Addr} {c2 : Nat} {xs : List S51} {v : Value} {ys : List S51} (h : q1c w W A2 c2 xs v ys) {g : Nat} {cs : Array Value} {t : TypeId} (hg : W.heap[g]? = some (.cells cs t (0, 0))) (ht : ∀ q, q ∈ 51 :: Kd.E k51 → q ≠ t) (j : Nat) (u : Value) : q1c w (W.setCell ⟨g, j, none⟩ u) A2 c2 xs v ys := h.imp id fun h => Kd.R_set h hg ht j u
theorem settleO_cases {k : Nat} {ky nm : ByteArray} {ts : List S49} {is : Int} {xs : List S51} {now : Int} {o : Option (Int × List S51)} (h : q3u k ky nm ts is xs now = some o) :
  (q3y k ky nm ts is xs = some false ∧ o = none) ∨ (q3y k ky nm ts is xs = some true ∧ is ≠ 0 ∧ o = some (is, xs)) ∨
  (q3y k ky nm ts is xs = some true ∧ is = 0 ∧ ∃ u p, X.Fo.f k now [] = some u ∧ q4k k ts now u k is xs = some p ∧ o = some p) := by
 obtain ⟨b, hb, h⟩ := Option.bind_eq_some_iff.1 h
 cases b with
 | false => rw [if_pos rfl] at h; exact .inl ⟨hb, (Option.some.inj h).symm⟩
 | true =>
  rw [if_neg (by decide)] at h
  by_cases hi : is ≠ 0
  ·
   rw [if_pos hi] at h; exact .inr (.inl ⟨hb, hi, (Option.some.inj h).symm⟩)
  rw [if_neg hi] at h
  obtain ⟨u, hu, h⟩ := Option.bind_eq_some_iff.1 h
  obtain ⟨p, hp, h⟩ := Option.bind_eq_some_iff.1 h
  exact .inr (.inr ⟨hb, by simpa using hi, u, p, hu, hp, (Option.some.inj h).symm⟩)
theorem rightF_len {k : Nat} {ky nm : ByteArray} {ts : List S49} {is : Int} {xs : List S51} (h : q3y k ky nm ts is xs = some true) : xs.length = ts.length ∧ xs.length ≤ 1000000 := by
 unfold q3y at h
 split at h
 ·
  cases h
 split at h
 ·
  cases h
 obtain ⟨e, _, h⟩ := Option.bind_eq_some_iff.1 h
 split at h
 ·
  cases h
 split at h
 ·
  cases h
 split at h
 ·
  cases h
 constructor <;> omega
theorem mendF_len {ts : List S49} {is is' : Int} {xs ys : List S51} (h : mendF ts is xs = some (is', ys)) : ys.length = xs.length := by
 unfold mendF at h
 split at h
 ·
  split at h
  ·
   cases h; simp
  obtain ⟨zs, h1, h2⟩ := Option.bind_eq_some_iff.1 h
  cases h2
  exact mendTo_len _ _ _ _ h1
 cases h
theorem expireO_f {k : Nat} {t : S49} {s s' : S51} {now : Int} (h : expireO k t s now = some s') : X.Fv.f k t.f0 t.f1 t.f2 t.f3 s.f0 s.f1 s.f2 s.f3 s.f4 now = some (s'.f0, s'.f1, s'.f2, s'.f3, s'.f4) := by
 obtain ⟨p, h1, h2⟩ := Option.bind_eq_some_iff.1 h
 cases h2
 exact h1
theorem clone_n (A : Option Addr) (c : Nat) (xs : List S51) (n : Nat) (hn : xs.length = n) (w : World) (hC : Kd.C k51 w A xs.length xs) (hl : xs.length ≤ 1000000) :
  Calls Try.prog 37 #[.slice A n c] w fun e w' => ∃ v : Value, e = .returned v ∧ Kd.R k51 51 w' w.heap.size (fun _ => True) v xs ∧ Below w.heap.size w w' := by
 subst hn
 exact q4b A c xs w hC hl
theorem q1c.base {w w1 W : World} {A2 : Option Addr} {c2 : Nat} {xs : List S51} {v : Value} {ys : List S51} (h : q1c w1 W A2 c2 xs v ys) (a0 : w.heap.size ≤ w1.heap.size) : q1c w W A2 c2 xs v ys := h.imp id fun h => Kd.R_lower h a0
theorem settleL_len {k : Nat} {ts : List S49} {now u : Int} : ∀ (q : Nat) (is : Int) (zs : List S51) (p : Int × List S51), q4k k ts now u q is zs = some p → p.2.length = zs.length
 | 0, _, _, _, h => by cases h
 | q + 1, is, zs, p, h => by
  rw [q4k] at h
  split at h
  ·
   obtain ⟨s, _, h⟩ := Option.bind_eq_some_iff.1 h
   obtain ⟨r, h1, h⟩ := Option.bind_eq_some_iff.1 h
   rw [settleL_len q _ _ _ h, mendF_len (is' := r.1) (ys := r.2) h1, List.length_set]
  cases h; rfl
theorem settleO_len {k : Nat} {ky nm : ByteArray} {ts : List S49} {is : Int} {xs : List S51} {now : Int} {p : Int × List S51} (h : q3u k ky nm ts is xs now = some (some p)) : p.2.length = xs.length ∧ xs.length = ts.length ∧ xs.length ≤ 1000000 := by
 rcases settleO_cases h with ⟨_, h⟩ | ⟨hr, _, h⟩ | ⟨hr, _, u, p', _, hl, h⟩
 ·
  cases h
 ·
  cases h; exact ⟨rfl, rightF_len hr⟩
 cases h; exact ⟨settleL_len _ _ _ _ hl, rightF_len hr⟩
def zeroRun : Value := .agg #[(.string (⟨#[]⟩ : ByteArray)), (.string (⟨#[]⟩ : ByteArray)), (.slice none 0 0), (.int .i64 0), (.slice none 0 0)]
def runPost (ky nm : ByteArray) (A1 : Option Addr) (c1 : Nat) (ts : List S49) (A2 : Option Addr) (c2 : Nat) (xs : List S51) (w : World) (p : Int × Int × List S51) (e : Ending) (w' : World) : Prop :=
 ((p.1 = 0 ∧ ∃ v, e = .returned (.tuple #[.agg #[(.string ky), (.string nm), (.slice A1 ts.length c1), (.int .i64 p.2.1), v], .int .i64 0]) ∧ q1c w w' A2 c2 xs v p.2.2) ∨
  (p.1 ≠ 0 ∧ e = .returned (.tuple #[zeroRun, .int .i64 p.1]))) ∧ Below w.heap.size w w'
theorem mend_n (ky nm : ByteArray) (A1 : Option Addr) (c1 : Nat) (ts : List S49) (is : Int) (A2 : Option Addr) (c2 : Nat) (xs : List S51) (n : Nat) (hn : xs.length = n) (is' : Int) (ys : List S51) (w : World) (hT : Kd.C k49 w A1 ts.length ts) (hC : Kd.C k51 w A2 xs.length xs) (h : mendF ts is xs = some (is', ys)) :
  Calls Try.prog 30 #[.agg #[.string ky, .string nm, .slice A1 ts.length c1, .int .i64 is, .slice A2 n c2]] w fun e w' => ∃ v : Value, e = .returned (.agg #[.string ky, .string nm, .slice A1 ts.length c1, .int .i64 is', v]) ∧ Kd.R k51 51 w' w.heap.size (fun _ => True) v ys ∧ Below w.heap.size w w' := by
 subst hn
 exact mend_calls ky nm A1 c1 ts is A2 c2 xs is' ys w hT hC h
set_option maxHeartbeats 1000000 in
theorem q3e (ky : ByteArray) (b : Bool) (hb : (if ky.size < 1 then false else if 16 < ky.size then false else true) = b) (w : World) : Calls Try.prog 28 #[.string ky] w fun e w' => e = .returned (.bool b) ∧ Below w.heap.size w w' := by
 subst hb
 by_cases h1 : ky.size < 1
 ·
  have e1 : decide ((ky.size : Int) ≥ 1) = false := decide_eq_false (by omega)
  rw [if_pos h1]
  go_enter Try.func28, Try.ntmps28
  go_wp2
  go_ret
  exact ⟨rfl, Below.refl _ _⟩
 have e1 : decide ((ky.size : Int) ≥ 1) = true := decide_eq_true (by omega)
 rw [if_neg h1]
 by_cases h2 : 16 < ky.size
 ·
  have e2 : decide ((ky.size : Int) ≤ 16) = false := decide_eq_false (by omega)
  rw [if_pos h2]
  go_enter Try.func28, Try.ntmps28
  go_wp2
  go_ret
  exact ⟨rfl, Below.refl _ _⟩
 have e2 : decide ((ky.size : Int) ≤ 16) = true := decide_eq_true (by omega)
 rw [if_neg h2]
 go_enter Try.func28, Try.ntmps28
 go_wp2
 go_ret
 exact ⟨rfl, Below.refl _ _⟩
theorem runPost_ok {ky nm : ByteArray} {A1 : Option Addr} {c1 : Nat} {ts : List S49} {A2 : Option Addr} {c2 : Nat} {xs : List S51} {w : World} {p : Int × Int × List S51} {e : Ending} {w' : World} (h0 : p.1 = 0) (h : runPost ky nm A1 c1 ts A2 c2 xs w p e w') :
  (∃ v, e = .returned (.tuple #[.agg #[(.string ky), (.string nm), (.slice A1 ts.length c1), (.int .i64 p.2.1), v], .int .i64 0]) ∧ q1c w w' A2 c2 xs v p.2.2) ∧ Below w.heap.size w w' := by
 obtain ⟨h1 | h1, h2⟩ := h
 ·
  exact ⟨h1.2, h2⟩
 exact absurd h0 h1.1
theorem q4w {ky nm : ByteArray} {A1 : Option Addr} {c1 : Nat} {ts : List S49} {A2 : Option Addr} {c2 : Nat} {xs : List S51} {w : World} {p : Int × Int × List S51} {e : Ending} {w' : World} (h0 : p.1 ≠ 0) (h : runPost ky nm A1 c1 ts A2 c2 xs w p e w') :
  e = .returned (.tuple #[.agg #[(.string (⟨#[]⟩ : ByteArray)), (.string (⟨#[]⟩ : ByteArray)), (.slice none 0 0), (.int .i64 0), (.slice none 0 0)], .int .i64 p.1]) ∧ Below w.heap.size w w' := by
 obtain ⟨h1 | h1, h2⟩ := h
 ·
  exact absurd h1.1 h0
 exact ⟨h1.2, h2⟩
theorem q1c.V {w W : World} {A2 : Option Addr} {c2 : Nat} {xs : List S51} {v : Value} {ys : List S51} {P4 : Nat → Prop} (h : q1c w W A2 c2 xs v ys) (hb : Below w.heap.size w W) (a0 : Kd.V k51 51 w w.heap.size (fun k_ => P4 k_) (.slice A2 xs.length c2) xs) : Kd.V k51 51 W w.heap.size (fun k_ => P4 k_ ∨ w.heap.size ≤ k_) v ys := by
 rcases h with ⟨rfl, rfl⟩ | h
 ·
  exact Kd.V_mono (Kd.V_below a0 hb) (fun k hk => .inl hk)
 exact Kd.R_V (Kd.R_mono (Kd.R_bound h) (fun k hk => .inr hk.2.1))
theorem V_of_run {ky nm : ByteArray} {A1 : Option Addr} {c1 : Nat} {ts : List S49} {A2 : Option Addr} {c2 : Nat} {xs : List S51} {w : World} {p : Int × Int × List S51} {e : Ending} {w' : World} {P2 P4 : Nat → Prop}
  (a2 : Kd.V k49 49 w w.heap.size (fun k_ => P2 k_) (.slice A1 ts.length c1) ts) (a3 : Kd.V k51 51 w w.heap.size (fun k_ => P4 k_) (.slice A2 xs.length c2) xs) (h : runPost ky nm A1 c1 ts A2 c2 xs w p e w') {r1 r2 : ByteArray} {r3 : List S49} {r4 : Int} {r5 : List S51} {r6 : Int} (hr : q3v ky nm ts p = (r1, r2, r3, r4, r5, r6)) :
  ∃ a0 a1 : Value, e = .returned (.tuple #[.agg #[.string r1, .string r2, a0, .int .i64 r4, a1], .int .i64 r6]) ∧ Kd.V k49 49 w' w.heap.size (fun k_ => ((P2 k_ ∨ P4 k_) ∨ w.heap.size ≤ k_)) a0 r3 ∧ Kd.V k51 51 w' w.heap.size (fun k_ => ((P2 k_ ∨ P4 k_) ∨ w.heap.size ≤ k_)) a1 r5 ∧ Below w.heap.size w w' := by
 by_cases h0 : p.1 = 0
 ·
  obtain ⟨⟨v, rfl, ho⟩, hb⟩ := runPost_ok h0 h
  unfold q3v at hr
  rw [if_pos h0] at hr
  cases hr
  exact ⟨_, v, rfl, Kd.V_mono (Kd.V_below a2 hb) (fun k hk => .inl (.inl hk)), Kd.V_mono (ho.V hb a3) (fun k hk => hk.imp Or.inr id), hb⟩
 obtain ⟨rfl, hb⟩ := q4w h0 h
 unfold q3v at hr
 rw [if_neg h0] at hr
 cases hr
 exact ⟨_, _, rfl, Kd.V_nil _ _ _ _ _, Kd.V_nil _ _ _ _ _, hb⟩
theorem beatA_f {k : Nat} {now : Int} {t : S49} {s : S51} {p : S51 × Int} (h : beatA k now t s = some p) : X.Gb.f k t.f0 t.f1 t.f2 t.f3 s.f0 s.f1 s.f2 s.f3 s.f4 now = some (p.1.f0, p.1.f1, p.1.f2, p.1.f3, p.1.f4, p.2) := by
 obtain ⟨q, h1, h2⟩ := Option.bind_eq_some_iff.1 h
 cases h2
 exact h1
theorem failA_f {k : Nat} {now : Int} {t : S49} {s : S51} {p : S51 × Int} (h : failA k now t s = some p) : X.F1.f k t.f0 t.f1 t.f2 t.f3 s.f0 s.f1 s.f2 s.f3 s.f4 now = some (p.1.f0, p.1.f1, p.1.f2, p.1.f3, p.1.f4, p.2) := by
 obtain ⟨q, h1, h2⟩ := Option.bind_eq_some_iff.1 h
 cases h2
 exact h1
theorem doneA_f {result : ByteArray} {t : S49} {s : S51} {p : S51 × Int} (h : doneA result t s = some p) : X.Gc.f t.f0 t.f1 t.f2 t.f3 s.f0 s.f1 s.f2 s.f3 s.f4 result = some (p.1.f0, p.1.f1, p.1.f2, p.1.f3, p.1.f4, p.2) := by
 obtain ⟨q, h1, h2⟩ := Option.bind_eq_some_iff.1 h
 cases h2
 exact h1
theorem leaseO_f {k : Nat} {now token : Int} {t : S49} {s : S51} {p : S51 × Int} (h : leaseO k t s now token = some p) : X.Fq.f k t.f0 t.f1 t.f2 t.f3 s.f0 s.f1 s.f2 s.f3 s.f4 now token = some (p.1.f0, p.1.f1, p.1.f2, p.1.f3, p.1.f4, p.2) := by
 obtain ⟨q, h1, h2⟩ := Option.bind_eq_some_iff.1 h
 cases h2
 exact h1
end Go.Proofs.Ytabmkighhmchmaa
namespace Go.Proofs.Ytabmkighhmchmaa
open Go.RowKit Go.Shelf Go.YW.PrintWords Go.YW.PrintLast Go.YW.PrintMore Go.YW.Sq
open X (S49 S51 k49 k51 q0e q0c q1q q1u z51)
set_option linter.unusedVariables false
set_option linter.unusedSimpArgs false
theorem lit3 (W : World) : Kd.C (Kd.int .i64) (W.alloc (.cells #[.int .i64 3] 3)) (some ⟨W.heap.size, 0, none⟩) ([3] : List Int).length [3] := lit_C W [3] (by simp)
theorem q1x (ky nm : ByteArray) (A1 : Option Addr) (n1 c1 : Nat) (is : Int) (A2 : Option Addr) (c2 : Nat) (xs : List S51) (KA : Option Addr) (ks : List Int) (n : Nat) (hn : ks.length = n) (w : World) (hC : Kd.C k51 w A2 xs.length xs) (hl : xs.length ≤ 1000000) (hK : Kd.C (Kd.int .i64) w KA ks.length ks) (a0 : ks.length ≤ 1000) :
  Calls Try.prog 46 #[.agg (runV ky nm A1 n1 c1 is A2 xs.length c2), .slice KA n n] w fun e w' => e = .returned (.int .i64 (cntA ks xs)) ∧ Below w.heap.size w w' := by
 subst hn
 exact count_in ky nm A1 n1 c1 is A2 c2 xs KA ks.length ks w hC hl hK (Nat.le_refl _) a0
set_option maxHeartbeats 4000000 in
set_option maxRecDepth 100000 in
theorem kind_calls (ky nm : ByteArray) (A1 : Option Addr) (n1 c1 : Nat) (is : Int) (A2 : Option Addr) (c2 : Nat) (xs : List S51) (w : World) (hC : Kd.C k51 w A2 xs.length xs) (hl : xs.length ≤ 1000000) :
  Calls Try.prog 42 #[.agg (runV ky nm A1 n1 c1 is A2 xs.length c2)] w fun e w' => e = .returned (.int .i64 (q1n xs)) ∧ Below w.heap.size w w' := by
 have a5 := Try.underlying27
 have a4 := Try.underlying25
 have HC := am hC
 have HL := am hl
 have HB := am (Below.refl w.heap.size w)
 clear hC hl
 by_cases h1 : cntA [3] xs = (xs.length : Int)
 ·
  have HK : q0f (q1n xs = 1) := ⟨by unfold q1n; rw [if_pos h1]⟩
  rw [HK.out]
  go_enter Try.func42, Try.ntmps42
  go_upto_region 1 with ((with_reducible refine gD 1 ?_); refine bz 1 (#[(.string ky), (.string nm), (.slice A1 n1 c1), (.int .i64 is), (.slice A2 xs.length c2)] : Array Value) 27 HB ?_; clear HB; intro g1 hg a0 hb B1 a2 HB; clear hb hg)
  have a3 := am (show Calls Try.prog 46 #[.agg (runV ky nm A1 n1 c1 is A2 xs.length c2), .slice (some ⟨a0.drew.heap.size, 0, none⟩) 1 1] (a0.alloc (.cells #[.int .i64 3] 3)).drew (fun e w' => e = .returned (.int .i64 (cntA [3] xs)) ∧ Below (a0.alloc (.cells #[.int .i64 3] 3)).drew.heap.size (a0.alloc (.cells #[.int .i64 3] 3)).drew w') from q1x ky nm A1 n1 c1 is A2 c2 xs (some ⟨a0.heap.size, 0, none⟩) [3] 1 rfl _ (Kd.C_drew (Kd.C_alloc (Kd.C_below HC.out HB.out) _)) HL.out (Kd.C_drew (lit3 a0)) (by simp))
  refine q2i (n := 8) (S := fun w' => w'.cell? ⟨g1, 0, none⟩ = some (.string ky) ∧ w'.cell? ⟨g1, 1, none⟩ = some (.string nm) ∧ w'.cell? ⟨g1, 2, none⟩ = some (.slice A1 n1 c1) ∧ w'.cell? ⟨g1, 3, none⟩ = some (.int .i64 is) ∧ w'.cell? ⟨g1, 4, none⟩ = some (.slice A2 xs.length c2)) (ds := []) (ba 8 0) (by kernel_rfl) rfl rfl ⟨((q0i (q0g B1.out) 0).trans rfl), ((q0i (q0g B1.out) 1).trans rfl), ((q0i (q0g B1.out) 2).trans rfl), ((q0i (q0g B1.out) 3).trans rfl), ((q0i (q0g B1.out) 4).trans rfl)⟩ (fun a1 => ?_)
  refine ph 3 7 (ba 8 8) ?_
  refine th 0 4 (ba 8 9) a1 ?_
  refine th 4 8 (ba 8 25) a1 ?_
  refine ph 5 9 (ba 8 57) ?_
  refine oh 1 5 (ba 8 59) fun K hK => ?_
  refine value_ (w1 := ?_) (v := ?_) (by rfl) rfl ?_ ?_
  rotate_left 2
  ·
   go_simp
   constructor
   ·
    rfl
   rfl
  refine hK.out _ _ ⟨((q0i (q0g (q0h B1.out _)) 0).trans rfl), ((q0i (q0g (q0h B1.out _)) 1).trans rfl), ((q0i (q0g (q0h B1.out _)) 2).trans rfl), ((q0i (q0g (q0h B1.out _)) 3).trans rfl), ((q0i (q0g (q0h B1.out _)) 4).trans rfl)⟩ (fun a1 => ?_)
  clear hK K
  refine nh ?_
  refine oh 2 6 (ba 8 63) fun K hK => ?_
  refine q2c Try.func46 (by kernel_rfl) rfl #[.agg (runV ky nm A1 n1 c1 is A2 xs.length c2), .slice (some ⟨a0.drew.heap.size, 0, none⟩) 1 1] (by rfl) rfl rfl (by simp only [List.map_toArray, List.map_cons, List.map_nil]; rfl) ?_
  with_reducible refine (a3.out).mono ?_
  rintro e w3 ⟨rfl, hb⟩
  refine ⟨_, rfl, ?_⟩
  have X1 := am (q0b (q0g (q0h B1.out _)) hb)
  have XB := am (q0j (q0a (q0d HB.out _)) hb)
  clear B1 HB hb
  have B1 := X1
  have HB := XB
  clear X1 XB
  refine hK.out _ _ ⟨(bc B1.out), (bc B1.out), (bc B1.out), (bc B1.out), (bc B1.out)⟩ (fun a1 => ?_)
  clear hK K
  refine nh ?_
  refine ph 6 10 (ba 8 127) ?_
  refine ph 7 3 (ba 8 255) ?_
  refine q2a (by kernel_rfl) ?_
  obtain ⟨b0, b1, b2, b3, b4⟩ := ce5 B1.out
  go_wp2
  go_ret
  exact ⟨rfl, pB HB.out⟩
 have E1 := beq_eq_false_iff_ne.2 h1
 by_cases h2 : 0 < cntA [4] xs
 ·
  have E2 : decide (cntA [4] xs > 0) = true := decide_eq_true h2
  have HK : q0f (q1n xs = 2) := ⟨by unfold q1n; rw [if_neg h1, if_pos h2]⟩
  clear h1 h2
  rw [HK.out]
  go_enter Try.func42, Try.ntmps42
  go_upto_region 1 with ((with_reducible refine gD 1 ?_); refine bz 1 (#[(.string ky), (.string nm), (.slice A1 n1 c1), (.int .i64 is), (.slice A2 xs.length c2)] : Array Value) 27 HB ?_; clear HB; intro g1 hg a0 hb B1 a2 HB; clear hb hg)
  have a3 := am (show Calls Try.prog 46 #[.agg (runV ky nm A1 n1 c1 is A2 xs.length c2), .slice (some ⟨a0.drew.heap.size, 0, none⟩) 1 1] (a0.alloc (.cells #[.int .i64 3] 3)).drew (fun e w' => e = .returned (.int .i64 (cntA [3] xs)) ∧ Below (a0.alloc (.cells #[.int .i64 3] 3)).drew.heap.size (a0.alloc (.cells #[.int .i64 3] 3)).drew w') from q1x ky nm A1 n1 c1 is A2 c2 xs (some ⟨a0.heap.size, 0, none⟩) [3] 1 rfl _ (Kd.C_drew (Kd.C_alloc (Kd.C_below HC.out HB.out) _)) HL.out (Kd.C_drew (lit3 a0)) (by simp))
  refine q2i (n := 8) (S := fun w' => w'.cell? ⟨g1, 0, none⟩ = some (.string ky) ∧ w'.cell? ⟨g1, 1, none⟩ = some (.string nm) ∧ w'.cell? ⟨g1, 2, none⟩ = some (.slice A1 n1 c1) ∧ w'.cell? ⟨g1, 3, none⟩ = some (.int .i64 is) ∧ w'.cell? ⟨g1, 4, none⟩ = some (.slice A2 xs.length c2)) (ds := []) (ba 8 0) (by kernel_rfl) rfl rfl ⟨((q0i (q0g B1.out) 0).trans rfl), ((q0i (q0g B1.out) 1).trans rfl), ((q0i (q0g B1.out) 2).trans rfl), ((q0i (q0g B1.out) 3).trans rfl), ((q0i (q0g B1.out) 4).trans rfl)⟩ (fun a1 => ?_)
  refine ph 3 7 (ba 8 8) ?_
  refine th 0 4 (ba 8 9) a1 ?_
  refine th 4 8 (ba 8 25) a1 ?_
  refine ph 5 9 (ba 8 57) ?_
  refine oh 1 5 (ba 8 59) fun K hK => ?_
  refine value_ (w1 := ?_) (v := ?_) (by rfl) rfl ?_ ?_
  rotate_left 2
  ·
   go_simp
   constructor
   ·
    rfl
   rfl
  refine hK.out _ _ ⟨((q0i (q0g (q0h B1.out _)) 0).trans rfl), ((q0i (q0g (q0h B1.out _)) 1).trans rfl), ((q0i (q0g (q0h B1.out _)) 2).trans rfl), ((q0i (q0g (q0h B1.out _)) 3).trans rfl), ((q0i (q0g (q0h B1.out _)) 4).trans rfl)⟩ (fun a1 => ?_)
  clear hK K
  refine nh ?_
  refine oh 2 6 (ba 8 63) fun K hK => ?_
  refine q2c Try.func46 (by kernel_rfl) rfl #[.agg (runV ky nm A1 n1 c1 is A2 xs.length c2), .slice (some ⟨a0.drew.heap.size, 0, none⟩) 1 1] (by rfl) rfl rfl (by simp only [List.map_toArray, List.map_cons, List.map_nil]; rfl) ?_
  with_reducible refine (a3.out).mono ?_
  rintro e w3 ⟨rfl, hb⟩
  refine ⟨_, rfl, ?_⟩
  have X1 := am (q0b (q0g (q0h B1.out _)) hb)
  have XB := am (q0j (q0a (q0d HB.out _)) hb)
  clear B1 HB hb
  have B1 := X1
  have HB := XB
  clear X1 XB
  refine hK.out _ _ ⟨(bc B1.out), (bc B1.out), (bc B1.out), (bc B1.out), (bc B1.out)⟩ (fun a1 => ?_)
  clear hK K
  refine nh ?_
  refine ph 6 10 (ba 8 127) ?_
  refine ph 7 3 (ba 8 255) ?_
  refine q2a (by kernel_rfl) ?_
  obtain ⟨b0, b1, b2, b3, b4⟩ := ce5 B1.out
  go_wp2_with (go_at_call 46; refine (q1x ky nm A1 n1 c1 is A2 c2 xs (some ⟨w3.heap.size, 0, none⟩) [4] 1 rfl _ (Kd.C_alloc (Kd.C_below HC.out HB.out) _) HL.out (lit_C w3 [4] (by simp)) (by simp)).mono ?_; rintro e w4 ⟨rfl, hb⟩; replace B1 := kP B1 hb; replace HB := bS HB hb; clear b0 b1 b2 b3 b4 hb)
  go_ret
  exact ⟨rfl, pB HB.out⟩
 have E2 : decide (cntA [4] xs > 0) = false := decide_eq_false h2
 by_cases h3 : cntA [0, 1, 2] xs = 0
 ·
  have E3 := h3
  have HK : q0f (q1n xs = 3) := ⟨by unfold q1n; rw [if_neg h1, if_neg h2, if_pos h3]⟩
  clear h1 h2
  rw [HK.out]
  go_enter Try.func42, Try.ntmps42
  go_upto_region 1 with ((with_reducible refine gD 1 ?_); refine bz 1 (#[(.string ky), (.string nm), (.slice A1 n1 c1), (.int .i64 is), (.slice A2 xs.length c2)] : Array Value) 27 HB ?_; clear HB; intro g1 hg a0 hb B1 a2 HB; clear hb hg)
  have a3 := am (show Calls Try.prog 46 #[.agg (runV ky nm A1 n1 c1 is A2 xs.length c2), .slice (some ⟨a0.drew.heap.size, 0, none⟩) 1 1] (a0.alloc (.cells #[.int .i64 3] 3)).drew (fun e w' => e = .returned (.int .i64 (cntA [3] xs)) ∧ Below (a0.alloc (.cells #[.int .i64 3] 3)).drew.heap.size (a0.alloc (.cells #[.int .i64 3] 3)).drew w') from q1x ky nm A1 n1 c1 is A2 c2 xs (some ⟨a0.heap.size, 0, none⟩) [3] 1 rfl _ (Kd.C_drew (Kd.C_alloc (Kd.C_below HC.out HB.out) _)) HL.out (Kd.C_drew (lit3 a0)) (by simp))
  refine q2i (n := 8) (S := fun w' => w'.cell? ⟨g1, 0, none⟩ = some (.string ky) ∧ w'.cell? ⟨g1, 1, none⟩ = some (.string nm) ∧ w'.cell? ⟨g1, 2, none⟩ = some (.slice A1 n1 c1) ∧ w'.cell? ⟨g1, 3, none⟩ = some (.int .i64 is) ∧ w'.cell? ⟨g1, 4, none⟩ = some (.slice A2 xs.length c2)) (ds := []) (ba 8 0) (by kernel_rfl) rfl rfl ⟨((q0i (q0g B1.out) 0).trans rfl), ((q0i (q0g B1.out) 1).trans rfl), ((q0i (q0g B1.out) 2).trans rfl), ((q0i (q0g B1.out) 3).trans rfl), ((q0i (q0g B1.out) 4).trans rfl)⟩ (fun a1 => ?_)
  refine ph 3 7 (ba 8 8) ?_
  refine th 0 4 (ba 8 9) a1 ?_
  refine th 4 8 (ba 8 25) a1 ?_
  refine ph 5 9 (ba 8 57) ?_
  refine oh 1 5 (ba 8 59) fun K hK => ?_
  refine value_ (w1 := ?_) (v := ?_) (by rfl) rfl ?_ ?_
  rotate_left 2
  ·
   go_simp
   constructor
   ·
    rfl
   rfl
  refine hK.out _ _ ⟨((q0i (q0g (q0h B1.out _)) 0).trans rfl), ((q0i (q0g (q0h B1.out _)) 1).trans rfl), ((q0i (q0g (q0h B1.out _)) 2).trans rfl), ((q0i (q0g (q0h B1.out _)) 3).trans rfl), ((q0i (q0g (q0h B1.out _)) 4).trans rfl)⟩ (fun a1 => ?_)
  clear hK K
  refine nh ?_
  refine oh 2 6 (ba 8 63) fun K hK => ?_
  refine q2c Try.func46 (by kernel_rfl) rfl #[.agg (runV ky nm A1 n1 c1 is A2 xs.length c2), .slice (some ⟨a0.drew.heap.size, 0, none⟩) 1 1] (by rfl) rfl rfl (by simp only [List.map_toArray, List.map_cons, List.map_nil]; rfl) ?_
  with_reducible refine (a3.out).mono ?_
  rintro e w3 ⟨rfl, hb⟩
  refine ⟨_, rfl, ?_⟩
  have X1 := am (q0b (q0g (q0h B1.out _)) hb)
  have XB := am (q0j (q0a (q0d HB.out _)) hb)
  clear B1 HB hb
  have B1 := X1
  have HB := XB
  clear X1 XB
  refine hK.out _ _ ⟨(bc B1.out), (bc B1.out), (bc B1.out), (bc B1.out), (bc B1.out)⟩ (fun a1 => ?_)
  clear hK K
  refine nh ?_
  refine ph 6 10 (ba 8 127) ?_
  refine ph 7 3 (ba 8 255) ?_
  refine q2a (by kernel_rfl) ?_
  obtain ⟨b0, b1, b2, b3, b4⟩ := ce5 B1.out
  go_wp2_with (first | (go_at_call 46; refine (q1x ky nm A1 n1 c1 is A2 c2 xs (some ⟨w3.heap.size, 0, none⟩) [4] 1 rfl _ (Kd.C_alloc (Kd.C_below HC.out HB.out) _) HL.out (lit_C w3 [4] (by simp)) (by simp)).mono ?_; rintro e w4 ⟨rfl, hb⟩; replace B1 := kP B1 hb; replace HB := bS HB hb; clear b0 b1 b2 b3 b4 hb; obtain ⟨b0, b1, b2, b3, b4⟩ := ce5 B1.out) | (go_at_call 46; refine (q1x ky nm A1 n1 c1 is A2 c2 xs (some ⟨w4.heap.size, 0, none⟩) [0, 1, 2] 3 rfl _ (Kd.C_alloc (Kd.C_below HC.out HB.out) _) HL.out (lit_C w4 [0, 1, 2] (by simp)) (by simp)).mono ?_; rintro e w5 ⟨rfl, hb⟩; replace B1 := kP B1 hb; replace HB := bS HB hb; clear b0 b1 b2 b3 b4 hb))
  go_ret
  exact ⟨rfl, pB HB.out⟩
 have E3 := beq_eq_false_iff_ne.2 h3
 have HK : q0f (q1n xs = 0) := ⟨by unfold q1n; rw [if_neg h1, if_neg h2, if_neg h3]⟩
 clear h1 h2
 rw [HK.out]
 go_enter Try.func42, Try.ntmps42
 go_upto_region 1 with ((with_reducible refine gD 1 ?_); refine bz 1 (#[(.string ky), (.string nm), (.slice A1 n1 c1), (.int .i64 is), (.slice A2 xs.length c2)] : Array Value) 27 HB ?_; clear HB; intro g1 hg a0 hb B1 a2 HB; clear hb hg)
 have a3 := am (show Calls Try.prog 46 #[.agg (runV ky nm A1 n1 c1 is A2 xs.length c2), .slice (some ⟨a0.drew.heap.size, 0, none⟩) 1 1] (a0.alloc (.cells #[.int .i64 3] 3)).drew (fun e w' => e = .returned (.int .i64 (cntA [3] xs)) ∧ Below (a0.alloc (.cells #[.int .i64 3] 3)).drew.heap.size (a0.alloc (.cells #[.int .i64 3] 3)).drew w') from q1x ky nm A1 n1 c1 is A2 c2 xs (some ⟨a0.heap.size, 0, none⟩) [3] 1 rfl _ (Kd.C_drew (Kd.C_alloc (Kd.C_below HC.out HB.out) _)) HL.out (Kd.C_drew (lit3 a0)) (by simp))
 refine q2i (n := 8) (S := fun w' => w'.cell? ⟨g1, 0, none⟩ = some (.string ky) ∧ w'.cell? ⟨g1, 1, none⟩ = some (.string nm) ∧ w'.cell? ⟨g1, 2, none⟩ = some (.slice A1 n1 c1) ∧ w'.cell? ⟨g1, 3, none⟩ = some (.int .i64 is) ∧ w'.cell? ⟨g1, 4, none⟩ = some (.slice A2 xs.length c2)) (ds := []) (ba 8 0) (by kernel_rfl) rfl rfl ⟨((q0i (q0g B1.out) 0).trans rfl), ((q0i (q0g B1.out) 1).trans rfl), ((q0i (q0g B1.out) 2).trans rfl), ((q0i (q0g B1.out) 3).trans rfl), ((q0i (q0g B1.out) 4).trans rfl)⟩ (fun a1 => ?_)
 refine ph 3 7 (ba 8 8) ?_
 refine th 0 4 (ba 8 9) a1 ?_
 refine th 4 8 (ba 8 25) a1 ?_
 refine ph 5 9 (ba 8 57) ?_
 refine oh 1 5 (ba 8 59) fun K hK => ?_
 refine value_ (w1 := ?_) (v := ?_) (by rfl) rfl ?_ ?_
 rotate_left 2
 ·
  go_simp
  constructor
  ·
   rfl
  rfl
 refine hK.out _ _ ⟨((q0i (q0g (q0h B1.out _)) 0).trans rfl), ((q0i (q0g (q0h B1.out _)) 1).trans rfl), ((q0i (q0g (q0h B1.out _)) 2).trans rfl), ((q0i (q0g (q0h B1.out _)) 3).trans rfl), ((q0i (q0g (q0h B1.out _)) 4).trans rfl)⟩ (fun a1 => ?_)
 clear hK K
 refine nh ?_
 refine oh 2 6 (ba 8 63) fun K hK => ?_
 refine q2c Try.func46 (by kernel_rfl) rfl #[.agg (runV ky nm A1 n1 c1 is A2 xs.length c2), .slice (some ⟨a0.drew.heap.size, 0, none⟩) 1 1] (by rfl) rfl rfl (by simp only [List.map_toArray, List.map_cons, List.map_nil]; rfl) ?_
 with_reducible refine (a3.out).mono ?_
 rintro e w3 ⟨rfl, hb⟩
 refine ⟨_, rfl, ?_⟩
 have X1 := am (q0b (q0g (q0h B1.out _)) hb)
 have XB := am (q0j (q0a (q0d HB.out _)) hb)
 clear B1 HB hb
 have B1 := X1
 have HB := XB
 clear X1 XB
 refine hK.out _ _ ⟨(bc B1.out), (bc B1.out), (bc B1.out), (bc B1.out), (bc B1.out)⟩ (fun a1 => ?_)
 clear hK K
 refine nh ?_
 refine ph 6 10 (ba 8 127) ?_
 refine ph 7 3 (ba 8 255) ?_
 refine q2a (by kernel_rfl) ?_
 obtain ⟨b0, b1, b2, b3, b4⟩ := ce5 B1.out
 go_wp2_with (first | (go_at_call 46; refine (q1x ky nm A1 n1 c1 is A2 c2 xs (some ⟨w3.heap.size, 0, none⟩) [4] 1 rfl _ (Kd.C_alloc (Kd.C_below HC.out HB.out) _) HL.out (lit_C w3 [4] (by simp)) (by simp)).mono ?_; rintro e w4 ⟨rfl, hb⟩; replace B1 := kP B1 hb; replace HB := bS HB hb; clear b0 b1 b2 b3 b4 hb; obtain ⟨b0, b1, b2, b3, b4⟩ := ce5 B1.out) | (go_at_call 46; refine (q1x ky nm A1 n1 c1 is A2 c2 xs (some ⟨w4.heap.size, 0, none⟩) [0, 1, 2] 3 rfl _ (Kd.C_alloc (Kd.C_below HC.out HB.out) _) HL.out (lit_C w4 [0, 1, 2] (by simp)) (by simp)).mono ?_; rintro e w5 ⟨rfl, hb⟩; replace B1 := kP B1 hb; replace HB := bS HB hb; clear b0 b1 b2 b3 b4 hb))
 go_ret
 exact ⟨rfl, pB HB.out⟩
end Go.Proofs.Ytabmkighhmchmaa
