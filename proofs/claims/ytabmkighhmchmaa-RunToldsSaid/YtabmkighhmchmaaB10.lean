/- Words and walks for the law RunTolds, joined and made small by a program of mine. -/
import Derived.Test.YtabmkighhmchmaaB2
import Derived.Test.YtabmkighhmchmaaB8
import Derived.Test.YtabmkighhmchmaaB9
import Derived.Test.YtabmkighhmchmaaB4
import Derived.Test.YtabmkighhmchmaaB6
import Derived.Test.YtabmkighhmchmaaB7
import Derived.Test.YtabmkighhmchmaaB3
namespace Go.Proofs.Ytabmkighhmchmaa.X
open Go.RowKit Go.YW.PrintWords Go.YW.PrintLast Go.YW.PrintMore Go.YW.Sq
attribute [local go_sem] q1a q0x q1d q1c q0t q0s q0y q0w
set_option linter.unusedVariables false
set_option linter.unusedSimpArgs false
mutual
def Fd.j0 : Nat → Int → Int → Int → Int → ByteArray → ByteArray → List (S49) → Int → List (S51) → Int → Int → Int → Int → ByteArray → Int → Int → Int → Int → ByteArray → Option (ByteArray × ByteArray × (List (S49)) × Int × (List (S51)) × Int)
 | 0, _, _, _, _, _, _, _, _, _, _, _, _, _, _, _, _, _, _, _ => none
 | k + 1, x1, x2, b6, b7, a2, a3, a0, a4, a5, a6, a7, a8, a9, b0, b1, b2, b3, b4, b5 => if x1 = 2 then (if 0 ≤ b6 then (if b6 < (a0.length : Int) then ((F5.f k ((q0d a0 b6).f0) ((q0d a0 b6).f1) ((q0d a0 b6).f2) ((q0d a0 b6).f3) a6 a7 a8 a9 b0 x2).bind fun a1 => (Fd.j1 k b6 a1.2.2.2.2.2 a2 a3 a0 a4 a5 a1.1 a1.2.1 a1.2.2.1 a1.2.2.2.1 a1.2.2.2.2.1)) else (none)) else (none)) else (Fd.j1 k b6 b7 a2 a3 a0 a4 a5 b1 b2 b3 b4 b5)
def Fd.j1 : Nat → Int → Int → ByteArray → ByteArray → List (S49) → Int → List (S51) → Int → Int → Int → Int → ByteArray → Option (ByteArray × ByteArray × (List (S49)) × Int × (List (S51)) × Int)
 | 0, _, _, _, _, _, _, _, _, _, _, _, _ => none
 | k + 1, b3, b2, a2, a3, a4, a5, a6, a7, a8, a9, b0, b1 => if b2 = 0 then ((Fo.f k a2 a3 a4 a5 a6 b3 a7 a8 a9 b0 b1).bind fun a0 => ((Fg.f k a0.1 a0.2.1 a0.2.2.1 a0.2.2.2.1 a0.2.2.2.2).bind fun a1 => (some (a1.1, a1.2.1, a1.2.2.1, a1.2.2.2.1, a1.2.2.2.2, 0)))) else (some ((⟨#[]⟩ : ByteArray), (⟨#[]⟩ : ByteArray), ([] : List (S49)), 0, ([] : List (S51)), b2))
end
def Fd.f (k : Nat) (a8 : ByteArray) (a9 : ByteArray) (b1 : List (S49)) (b0 : Int) (b2 : List (S51)) (a1 : Int) (a2 : Int) (a3 : Int) (a4 : ByteArray) : Option (ByteArray × ByteArray × (List (S49)) × Int × (List (S51)) × Int) := (Fk.f k a8 a9 b1 b0 b2 a2).bind fun a0 => ((Fv.f k a0.1 a0.2.1 a0.2.2.1 a0.2.2.2.1 a0.2.2.2.2 a3).bind fun a5 => (if a5 < 0 then (some ((⟨#[]⟩ : ByteArray), (⟨#[]⟩ : ByteArray), ([] : List (S49)), 0, ([] : List (S51)), 191)) else (if 0 ≤ a5 then (if a5 < (a0.2.2.2.2.length : Int) then (if a5 < (a0.2.2.1.length : Int) then ((Gb.f k ((q0d a0.2.2.1 a5).f0) ((q0d a0.2.2.1 a5).f1) ((q0d a0.2.2.1 a5).f2) ((q0d a0.2.2.1 a5).f3) ((q0a a0.2.2.2.2 a5).f0) ((q0a a0.2.2.2.2 a5).f1) ((q0a a0.2.2.2.2 a5).f2) ((q0a a0.2.2.2.2 a5).f3) ((q0a a0.2.2.2.2 a5).f4) a2).bind fun a6 => (if a1 = 1 then ((Gh.f ((q0a a0.2.2.2.2 a5).f0) ((q0a a0.2.2.2.2 a5).f1) ((q0a a0.2.2.2.2 a5).f2) ((q0a a0.2.2.2.2 a5).f3) ((q0a a0.2.2.2.2 a5).f4) a4).bind fun a7 => (Fd.j0 k a1 a2 a5 a7.2.2.2.2.2 a0.1 a0.2.1 a0.2.2.1 a0.2.2.2.1 a0.2.2.2.2 ((q0a a0.2.2.2.2 a5).f0) ((q0a a0.2.2.2.2 a5).f1) ((q0a a0.2.2.2.2 a5).f2) ((q0a a0.2.2.2.2 a5).f3) ((q0a a0.2.2.2.2 a5).f4) a7.1 a7.2.1 a7.2.2.1 a7.2.2.2.1 a7.2.2.2.2.1)) else (Fd.j0 k a1 a2 a5 a6.2.2.2.2.2 a0.1 a0.2.1 a0.2.2.1 a0.2.2.2.1 a0.2.2.2.2 ((q0a a0.2.2.2.2 a5).f0) ((q0a a0.2.2.2.2 a5).f1) ((q0a a0.2.2.2.2 a5).f2) ((q0a a0.2.2.2.2 a5).f3) ((q0a a0.2.2.2.2 a5).f4) a6.1 a6.2.1 a6.2.2.1 a6.2.2.2.1 a6.2.2.2.2.1))) else (none)) else (none)) else (none))))
def Fd.T6 : Bool × List (List Nat × List Nat) := (true, [([], []), ([0], [0]), ([1], [1]), ([], []), ([2, 3], [2, 3]), ([4], [4]), ([], []), ([], []), ([5, 6, 7], [5, 6, 7]), ([8], [8]), ([9], [9]), ([9], [9]), ([], []), ([12, 10, 8, 0, 1, 2, 3, 4, 5, 6, 7, 8, 9, 10, 12], [10, 12]), ([11, 13, 0, 1, 2, 3, 4, 5, 6, 7, 8, 9, 10, 11, 12, 13], [11])])
def Fd.B6 : List Nat := [0, 1, 3, 0, 15, 31, 0, 0, 255, 511, 1023, 1023, 0, 6143, 16383]
theorem Fd.tab6 : rtab .any (opsOf Try.f22 6) = Fd.T6 := by kernel_rfl
theorem Fd.bits6 : q3k Fd.T6.2 Fd.B6 = true := by kernel_rfl
def Fd.T10 : Bool × List (List Nat × List Nat) := (true, [([], []), ([0], [0]), ([1], [1]), ([], []), ([2, 3], [2, 3]), ([4], [4]), ([], []), ([], []), ([5, 6, 7], [5, 6, 7]), ([8], [8]), ([9], [9]), ([9], [9]), ([10, 8, 0, 1, 2, 3, 4, 5, 6, 7, 8, 9, 10], [10]), ([11, 12, 0, 1, 2, 3, 4, 5, 6, 7, 8, 9, 10, 11, 12], [11])])
def Fd.B10 : List Nat := [0, 1, 3, 0, 15, 31, 0, 0, 255, 511, 1023, 1023, 2047, 8191]
theorem Fd.tab10 : rtab .any (opsOf Try.f22 10) = Fd.T10 := by kernel_rfl
theorem Fd.bits10 : q3k Fd.T10.2 Fd.B10 = true := by kernel_rfl
set_option maxHeartbeats 8000000 in
set_option maxRecDepth 100000 in
theorem Fd.calls (k : Nat) (k1 : ByteArray) (k2 : ByteArray) (d6 : Nat → Prop) (i7 : Option Addr) (j2 : Nat) (g5 : List (S49)) (k3 : Int) (d7 : Nat → Prop) (i8 : Option Addr) (j3 : Nat) (g6 : List (S51)) (a1 : Int) (a2 : Int) (a3 : Int) (a4 : ByteArray) (r1 : ByteArray) (r2 : ByteArray) (r3 : List (S49)) (r4 : Int) (r5 : List (S51)) (r6 : Int) (w : World) (u5 : Kd.V k49 49 w w.heap.size (fun k_ => d6 k_) (.slice i7 g5.length j2) g5) (u6 : Kd.V k51 51 w w.heap.size (fun k_ => d7 k_) (.slice i8 g6.length j3) g6) (h : Fd.f k k1 k2 g5 k3 g6 a1 a2 a3 a4 = some (r1, r2, r3, r4, r5, r6)) :
  Calls Try.prog 22 #[.agg #[.string k1, .string k2, .slice i7 g5.length j2, .int .i64 k3, .slice i8 g6.length j3], .int .i64 a1, .int .i64 a2, .int .i64 a3, .string a4] w fun e w' => ∃ R9 S0 : Value, e = .returned (.tuple #[.agg #[.string r1, .string r2, R9, .int .i64 r4, S0], .int .i64 r6]) ∧ Kd.V k49 49 w' w.heap.size (fun k_ => ((d6 k_ ∨ d7 k_) ∨ w.heap.size ≤ k_)) R9 r3 ∧ Kd.V k51 51 w' w.heap.size (fun k_ => ((d6 k_ ∨ d7 k_) ∨ w.heap.size ≤ k_)) S0 r5 ∧ Below w.heap.size w w' := by
 have T8 := Try.underlying27
 have W0 := Try.underlying51
 have T9 := Try.underlying49
 have c9 := am (show Kd.V k49 49 w w.heap.size (fun k_ => ((d6 k_ ∨ d7 k_) ∨ w.heap.size ≤ k_)) (.slice i7 g5.length j2) g5 from Kd.V_mono u5 (fun k_ hk => .inl (.inl hk)))
 have d0 := am (show Kd.V k51 51 w w.heap.size (fun k_ => ((d6 k_ ∨ d7 k_) ∨ w.heap.size ≤ k_)) (.slice i8 g6.length j3) g6 from Kd.V_mono u6 (fun k_ hk => .inl (.inr hk)))
 have HB := am (Below.refl w.heap.size w)
 unfold Fd.f at h
 have H := h
 clear h
 replace H := Option.bind_eq_some_iff.mp H
 obtain ⟨⟨f8, f9, b7, g0, b2⟩, M9, H⟩ := H
 try dsimp only at H
 have A6 := am M9
 clear M9
 replace H := Option.bind_eq_some_iff.mp H
 obtain ⟨a8, N0, H⟩ := H
 try dsimp only at H
 have A7 := am N0
 clear N0
 by_cases c8 : a8 < 0
 ·
  rw [if_pos c8] at H
  have K9 := decide_eq_true c8
  clear c8
  simp only [Option.some.injEq, Prod.mk.injEq] at H
  obtain ⟨rfl, rfl, rfl, rfl, rfl, rfl⟩ := H
  go_enter Try.func22, Try.ntmps22
  go_wp2_with (first | ((with_reducible refine gD 5 ?_); refine bz 5 #[.string k1, .string k2, .slice i7 g5.length j2, .int .i64 k3, .slice i8 g6.length j3] 27 HB ?_; clear HB; intro b5 hg w9 hb a9 s4 HB; replace c9 := vE c9 hg hb; replace d0 := vE d0 hg hb; clear hb hg) | ((with_reducible refine gD 10 ?_); refine bz 10 #[.string (⟨#[]⟩ : ByteArray), .string (⟨#[]⟩ : ByteArray), .slice none 0 0, .int .i64 0, .slice none 0 0] 27 HB ?_; clear HB; intro c6 hg W7 hb b4 s5 HB; replace c9 := vE c9 hg hb; replace d0 := vE d0 hg hb; have g4 := nL hg a9; have i3 := nG hg a9; replace a9 := kB a9 hb; clear hb hg; have P7 := nn g4; have A1 := y5 a9) | ((with_reducible refine gC 18 ?_); refine gL 18 Try.func18 #[.agg #[.string k1, .string k2, .slice i7 g5.length j2, .int .i64 k3, .slice i8 g6.length j3], .int .i64 a2] ?_; (with_reducible refine (Fk.calls k k1 k2 (fun k_ => ((((d6 k_ ∨ d7 k_) ∨ w.heap.size ≤ k_) ∧ k_ ≠ b5) ∧ k_ ≠ c6)) _ _ g5 k3 (fun k_ => ((((d6 k_ ∨ d7 k_) ∨ w.heap.size ≤ k_) ∧ k_ ≠ b5) ∧ k_ ≠ c6)) _ _ g6 a2 f8 f9 b7 g0 b2 _ ?side1 ?side2 A6.out).mono ?_); (case side1 => exact c9.out); (case side2 => exact d0.out); rintro e W8 ⟨M5, M6, rfl, o2, n3, hb⟩; refine ⟨_, rfl, ?_⟩; replace c9 := vB c9 hb; replace d0 := vB d0 hb; have b0 := vL (ok' := fun k_ => ((d6 k_ ∨ d7 k_) ∨ w.heap.size ≤ k_) ∧ k_ ≠ b5 ∧ k_ ≠ c6) HB o2 (fun k_ g2 => ⟨Or.elim g2 (fun b9 => Or.elim b9 (fun b9 => b9.1.1) (fun b9 => b9.1.1)) (fun n2 => (.inr (Nat.le_trans (q0m (pB HB.out)) n2))), Or.elim g2 (fun b9 => Or.elim b9 (fun b9 => b9.1.2) (fun b9 => b9.1.2)) (fB a9), Or.elim g2 (fun b9 => Or.elim b9 (fun b9 => b9.2) (fun b9 => b9.2)) (fB b4)⟩); have d5 := vL (ok' := fun k_ => ((d6 k_ ∨ d7 k_) ∨ w.heap.size ≤ k_) ∧ k_ ≠ b5 ∧ k_ ≠ c6) HB n3 (fun k_ g2 => ⟨Or.elim g2 (fun b9 => Or.elim b9 (fun b9 => b9.1.1) (fun b9 => b9.1.1)) (fun n2 => (.inr (Nat.le_trans (q0m (pB HB.out)) n2))), Or.elim g2 (fun b9 => Or.elim b9 (fun b9 => b9.1.2) (fun b9 => b9.1.2)) (fB a9), Or.elim g2 (fun b9 => Or.elim b9 (fun b9 => b9.2) (fun b9 => b9.2)) (fB b4)⟩); replace a9 := kB a9 hb; replace b4 := kB b4 hb; replace HB := bS HB hb; (try clear hb); (try clear o2); (try clear n3); have A2 := y5 a9; obtain ⟨s0, t5, L6⟩ := Kd.V_slice b0.out; subst L6; obtain ⟨s1, t6, L7⟩ := Kd.V_slice d5.out; subst L7) | ((with_reducible refine gC 57 ?_); refine gL 21 Try.func57 #[.agg #[.string f8, .string f9, .slice s0 b7.length t5, .int .i64 g0, .slice s1 b2.length t6], .int .i64 a3] ?_; (with_reducible refine (Fv.calls k f8 f9 _ _ b7 g0 _ _ b2 a3 a8 _ ?side1 ?side2 ?side3 ?side4 A7.out).mono ?_); (case side1 => exact (Kd.V_reads' (pV b0.out)).2.2); (case side2 => exact (Kd.V_reads' b0.out).2.1); (case side3 => exact (Kd.V_reads' (pV d5.out)).2.2); (case side4 => exact (Kd.V_reads' d5.out).2.1); rintro e W9 ⟨rfl, hb⟩; refine ⟨_, rfl, ?_⟩; replace c9 := vB c9 hb; replace d0 := vB d0 hb; replace b0 := vB b0 hb; replace d5 := vB d5 hb; replace a9 := am (q0c (g := b5) (o := .cells #[.string f8, .string f9, .slice s0 b7.length t5, .int .i64 g0, .slice s1 b2.length t6] 27 (0, 0)) (pP a9.out) hb); replace b4 := kB b4 hb; replace HB := bS HB hb; (try clear hb); have A3 := y5 b4))
  refine bodyPost_ret (q0v rfl _ _ c6 27 #[.string (⟨#[]⟩ : ByteArray), .string (⟨#[]⟩ : ByteArray), .slice none 0 0, .int .i64 0, .slice none 0 0] (0, 0) _ rfl (pP b4.out) Try.underlying27 rfl (by kernel_rfl)) rfl ?_
  exact ⟨_, _, by first | rfl | (simp [q1f, q1e] <;> rfl) | (simp [*, q1f, q1e] <;> rfl), Kd.V_nil _ _ _ _ _, Kd.V_nil _ _ _ _ _, pB HB.out⟩
 rw [if_neg c8] at H
 have K9 := decide_eq_false c8
 clear c8
 by_cases z7 : 0 ≤ a8
 ·
  rw [if_pos z7] at H
  have N2 := decide_eq_true z7
  clear z7
  by_cases q7 : a8 < (b2.length : Int)
  ·
   rw [if_pos q7] at H
   have p1 := decide_eq_true q7
   clear q7
   by_cases q8 : a8 < (b7.length : Int)
   ·
    rw [if_pos q8] at H
    have p2 := decide_eq_true q8
    clear q8
    replace H := Option.bind_eq_some_iff.mp H
    obtain ⟨⟨k6, k7, k8, k9, l0, n6⟩, q9, H⟩ := H
    try dsimp only at H
    have M8 := am q9
    clear q9
    have p5 := am H
    clear H
    go_enter Try.func22, Try.ntmps22
    try go_wp2_with (first | ((with_reducible refine gD 5 ?_); refine bz 5 #[.string k1, .string k2, .slice i7 g5.length j2, .int .i64 k3, .slice i8 g6.length j3] 27 HB ?_; clear HB; intro b5 hg X0 hb a9 s4 HB; replace c9 := vE c9 hg hb; replace d0 := vE d0 hg hb; clear hb hg) | ((with_reducible refine gD 10 ?_); refine bz 10 #[.string (⟨#[]⟩ : ByteArray), .string (⟨#[]⟩ : ByteArray), .slice none 0 0, .int .i64 0, .slice none 0 0] 27 HB ?_; clear HB; intro c6 hg X1 hb b4 s5 HB; replace c9 := vE c9 hg hb; replace d0 := vE d0 hg hb; have g4 := nL hg a9; have i3 := nG hg a9; replace a9 := kB a9 hb; clear hb hg; have P8 := nn g4; have l5 := y5 a9) | ((with_reducible refine gC 18 ?_); refine gL 18 Try.func18 #[.agg #[.string k1, .string k2, .slice i7 g5.length j2, .int .i64 k3, .slice i8 g6.length j3], .int .i64 a2] ?_; (with_reducible refine (Fk.calls k k1 k2 (fun k_ => ((((d6 k_ ∨ d7 k_) ∨ w.heap.size ≤ k_) ∧ k_ ≠ b5) ∧ k_ ≠ c6)) _ _ g5 k3 (fun k_ => ((((d6 k_ ∨ d7 k_) ∨ w.heap.size ≤ k_) ∧ k_ ≠ b5) ∧ k_ ≠ c6)) _ _ g6 a2 f8 f9 b7 g0 b2 _ ?side1 ?side2 A6.out).mono ?_); (case side1 => exact c9.out); (case side2 => exact d0.out); rintro e X2 ⟨M5, M6, rfl, o2, n3, hb⟩; refine ⟨_, rfl, ?_⟩; replace c9 := vB c9 hb; replace d0 := vB d0 hb; have b0 := vL (ok' := fun k_ => ((d6 k_ ∨ d7 k_) ∨ w.heap.size ≤ k_) ∧ k_ ≠ b5 ∧ k_ ≠ c6) HB o2 (fun k_ g2 => ⟨Or.elim g2 (fun b9 => Or.elim b9 (fun b9 => b9.1.1) (fun b9 => b9.1.1)) (fun n2 => (.inr (Nat.le_trans (q0m (pB HB.out)) n2))), Or.elim g2 (fun b9 => Or.elim b9 (fun b9 => b9.1.2) (fun b9 => b9.1.2)) (fB a9), Or.elim g2 (fun b9 => Or.elim b9 (fun b9 => b9.2) (fun b9 => b9.2)) (fB b4)⟩); have d5 := vL (ok' := fun k_ => ((d6 k_ ∨ d7 k_) ∨ w.heap.size ≤ k_) ∧ k_ ≠ b5 ∧ k_ ≠ c6) HB n3 (fun k_ g2 => ⟨Or.elim g2 (fun b9 => Or.elim b9 (fun b9 => b9.1.1) (fun b9 => b9.1.1)) (fun n2 => (.inr (Nat.le_trans (q0m (pB HB.out)) n2))), Or.elim g2 (fun b9 => Or.elim b9 (fun b9 => b9.1.2) (fun b9 => b9.1.2)) (fB a9), Or.elim g2 (fun b9 => Or.elim b9 (fun b9 => b9.2) (fun b9 => b9.2)) (fB b4)⟩); replace a9 := kB a9 hb; replace b4 := kB b4 hb; replace HB := bS HB hb; (try clear hb); (try clear o2); (try clear n3); have l6 := y5 a9; obtain ⟨s2, g9, L8⟩ := Kd.V_slice b0.out; subst L8; obtain ⟨s3, h0, L9⟩ := Kd.V_slice d5.out; subst L9) | ((with_reducible refine gC 57 ?_); refine gL 21 Try.func57 #[.agg #[.string f8, .string f9, .slice s2 b7.length g9, .int .i64 g0, .slice s3 b2.length h0], .int .i64 a3] ?_; (with_reducible refine (Fv.calls k f8 f9 _ _ b7 g0 _ _ b2 a3 a8 _ ?side1 ?side2 ?side3 ?side4 A7.out).mono ?_); (case side1 => exact (Kd.V_reads' (pV b0.out)).2.2); (case side2 => exact (Kd.V_reads' b0.out).2.1); (case side3 => exact (Kd.V_reads' (pV d5.out)).2.2); (case side4 => exact (Kd.V_reads' d5.out).2.1); rintro e X3 ⟨rfl, hb⟩; refine ⟨_, rfl, ?_⟩; replace c9 := vB c9 hb; replace d0 := vB d0 hb; replace b0 := vB b0 hb; replace d5 := vB d5 hb; replace a9 := am (q0c (g := b5) (o := .cells #[.string f8, .string f9, .slice s2 b7.length g9, .int .i64 g0, .slice s3 b2.length h0] 27 (0, 0)) (pP a9.out) hb); replace b4 := kB b4 hb; replace HB := bS HB hb; (try clear hb); have l7 := y5 a9; have o3 : 0 ≤ (a8 : Int) := od; have o4 : a8 < (b2.length : Int) := od; obtain ⟨f7, L3, m3, m4, m5, m6, m7⟩ := q1i (Kd.V_reads' d5.out).2.2 a8 o3 o4; cases L3; replace o3 := eq_true o3; replace o4 := eq_true o4) | ((with_reducible refine gD 13 ?_); refine bz 13 #[.int .i64 0, .int .i64 0, .int .i64 0, .int .i64 0, .string (⟨#[]⟩ : ByteArray)] 51 HB ?_; clear HB; intro b6 hg W4 hb b3 N1 HB; replace c9 := vE c9 hg hb; replace d0 := vE d0 hg hb; replace b0 := vE b0 hg hb; replace d5 := vE d5 hg hb; have n1 := nL hg a9; have i5 := nG hg a9; replace a9 := kB a9 hb; have i4 := nL hg b4; have i6 := nG hg b4; replace b4 := kB b4 hb; clear hb hg; have P9 := nn i5; have Q0 := nn i6; have l8 := y5 b3))
    obtain ⟨w38, hw⟩ : ∃ x, x = (((((W4.setCell ⟨b6, 0, none⟩ (.int .i64 ((q0a b2 a8).f0))).setCell ⟨b6, 1, none⟩ (.int .i64 ((q0a b2 a8).f1))).setCell ⟨b6, 2, none⟩ (.int .i64 ((q0a b2 a8).f2))).setCell ⟨b6, 3, none⟩ (.int .i64 ((q0a b2 a8).f3))).setCell ⟨b6, 4, none⟩ (.string ((q0a b2 a8).f4))) := ⟨_, rfl⟩
    have u9 := vW (ok' := fun k_ => ((d6 k_ ∨ d7 k_) ∨ w.heap.size ≤ k_) ∧ k_ ≠ b5 ∧ k_ ≠ c6 ∧ k_ ≠ b6) hw c9
    have v8 := vW (ok' := fun k_ => ((d6 k_ ∨ d7 k_) ∨ w.heap.size ≤ k_) ∧ k_ ≠ b5 ∧ k_ ≠ c6 ∧ k_ ≠ b6) hw d0
    have v9 := vW (ok' := fun k_ => ((d6 k_ ∨ d7 k_) ∨ w.heap.size ≤ k_) ∧ k_ ≠ b5 ∧ k_ ≠ c6 ∧ k_ ≠ b6) hw b0
    have w2 := vW (ok' := fun k_ => ((d6 k_ ∨ d7 k_) ∨ w.heap.size ≤ k_) ∧ k_ ≠ b5 ∧ k_ ≠ c6 ∧ k_ ≠ b6) hw d5
    have w3 := kW hw a9
    have w4 := kW hw b4
    have w5 := pW (cs' := #[.int .i64 ((q0a b2 a8).f0), .int .i64 ((q0a b2 a8).f1), .int .i64 ((q0a b2 a8).f2), .int .i64 ((q0a b2 a8).f3), .string ((q0a b2 a8).f4)]) hw b3
    have w6 := bW hw HB
    (try clear c9)
    (try clear d0)
    (try clear b0)
    (try clear d5)
    (try clear a9)
    (try clear b4)
    (try clear b3)
    (try clear HB)
    rw [← hw]
    clear hw
    have c9 := u9
    have d0 := v8
    have b0 := v9
    have d5 := w2
    have a9 := w3
    have b4 := w4
    have b3 := w5
    have HB := w6
    clear u9 v8 v9 w2 w3 w4 w5 w6
    replace c9 := am (Kd.V_drew c9.out)
    replace d0 := am (Kd.V_drew d0.out)
    replace b0 := am (Kd.V_drew b0.out)
    replace d5 := am (Kd.V_drew d5.out)
    replace a9 := am (q0g a9.out)
    replace b4 := am (q0g b4.out)
    replace b3 := am (q0g b3.out)
    replace HB := am (q0b HB.out)
    have n4 : 0 ≤ (a8 : Int) := od
    have n5 : a8 < (b7.length : Int) := od
    have R5 : 0 < b7.length := by omega
    obtain ⟨c7, g7, g8, L4, h6, i0, i1, i2, m1, l9⟩ := q1r (Kd.V_reads' b0.out).2.2 a8 n4 n5
    cases L4
    obtain ⟨N5, q1, p9, o0⟩ := Kd.V_get b0.out z49 a8 n4 (by first | exact n5 | exact of_decide_eq_true (by first | (with_reducible assumption) | assumption) | (have e_ := (Kd.V_reads' b0.out).1; omega))
    obtain ⟨K2, K4, rfl, j7, j4⟩ := k49_openF p9
    have h8 := o0 0 _ rfl
    rw [Nat.add_zero] at h8
    replace h8 := Option.some.inj (h8.symm.trans h6)
    injection h8 with hva_ hvn_ hvc_
    rw [hva_] at j4
    rw [hvc_] at j7
    have e0 := am (show Kd.V (Kd.int .i64) 3 _ w.heap.size _ _ ((q0d b7 a8).f0) from Kd.V_mk j7 j4)
    clear hva_ hvn_ hvc_ j4 j7 o0 q1
    have d9 := am l9
    have l3 := am m1
    clear l9 m1
    replace n4 := eq_true n4
    replace n5 := eq_true n5
    refine q2j (n := 15) (S := fun w' => w'.cell? ⟨b5, 0, none⟩ = some (.string f8) ∧ w'.cell? ⟨b5, 1, none⟩ = some (.string f9) ∧ w'.cell? ⟨b5, 2, none⟩ = some (.slice (some c7) b7.length g9) ∧ w'.cell? ⟨b5, 3, none⟩ = some (.int .i64 g0) ∧ w'.cell? ⟨b5, 4, none⟩ = some (.slice (some f7) b2.length h0) ∧ w'.cell? ⟨b6, 0, none⟩ = some (.int .i64 ((q0a b2 a8).f0)) ∧ w'.cell? ⟨b6, 1, none⟩ = some (.int .i64 ((q0a b2 a8).f1)) ∧ w'.cell? ⟨b6, 2, none⟩ = some (.int .i64 ((q0a b2 a8).f2)) ∧ w'.cell? ⟨b6, 3, none⟩ = some (.int .i64 ((q0a b2 a8).f3)) ∧ w'.cell? ⟨b6, 4, none⟩ = some (.string ((q0a b2 a8).f4)) ∧ w'.cell? (c7.add ((a8).toNat * 4)) = some (.slice g7 ((q0d b7 a8).f0).length g8) ∧ w'.cell? ⟨(c7.add ((a8).toNat * 4)).block, (c7.add ((a8).toNat * 4)).off + 1, none⟩ = some (.int .i64 ((q0d b7 a8).f1)) ∧ w'.cell? ⟨(c7.add ((a8).toNat * 4)).block, (c7.add ((a8).toNat * 4)).off + 2, none⟩ = some (.int .i64 ((q0d b7 a8).f2)) ∧ w'.cell? ⟨(c7.add ((a8).toNat * 4)).block, (c7.add ((a8).toNat * 4)).off + 3, none⟩ = some (.int .i64 ((q0d b7 a8).f3))) (ds := []) (ba 15 0) (by kernel_rfl) rfl rfl ⟨bc a9.out, bc a9.out, bc a9.out, bc a9.out, bc a9.out, bc b3.out, bc b3.out, bc b3.out, bc b3.out, bc b3.out, h6, i0, i1, i2⟩ (fun b1 => ?_); refine q2m Fd.tab6 Fd.bits6 (fun g1 p7 => ?_)
    generalize w38.drew = X4 at c9 d0 b0 d5 a9 b4 b3 HB e0 d9 h6 i0 i1 i2 b1 ⊢
    refine pu 0 31 (ba 15 1) g1 ?_
    refine pu 1 32 (ba 15 3) g1 ?_
    refine pu 3 34 (ba 15 11) g1 ?_
    refine pu 7 38 (ba 15 139) g1 ?_
    refine tk 2 33 (ba 15 143) g1 p7 b1 ?_
    refine pu 4 35 (ba 15 159) g1 ?_
    refine tk 5 36 (ba 15 191) g1 p7 b1 ?_
    refine tk 6 37 (ba 15 255) g1 p7 b1 ?_
    refine join_ (σ := Nat) 2 (ba 15 8191) (fun s_ => [(39, .tuple #[.agg #[.int .i64 k6, .int .i64 k7, .int .i64 k8, .int .i64 k9, .string l0], .int .i64 n6]), (14, .pointer (some ⟨s_, 0, none⟩)), (30, .tuple #[.agg #[.int .i64 k6, .int .i64 k7, .int .i64 k8, .int .i64 k9, .string l0], .int .i64 n6]), (40, .agg #[.int .i64 k6, .int .i64 k7, .int .i64 k8, .int .i64 k9, .string l0]), (41, .int .i64 n6)]) (fun s_ w' => (w'.cell? ⟨b5, 0, none⟩ = some (.string f8) ∧ w'.cell? ⟨b5, 1, none⟩ = some (.string f9) ∧ w'.cell? ⟨b5, 2, none⟩ = some (.slice (some c7) b7.length g9) ∧ w'.cell? ⟨b5, 3, none⟩ = some (.int .i64 g0) ∧ w'.cell? ⟨b5, 4, none⟩ = some (.slice (some f7) b2.length h0) ∧ w'.cell? ⟨b6, 0, none⟩ = some (.int .i64 ((q0a b2 a8).f0)) ∧ w'.cell? ⟨b6, 1, none⟩ = some (.int .i64 ((q0a b2 a8).f1)) ∧ w'.cell? ⟨b6, 2, none⟩ = some (.int .i64 ((q0a b2 a8).f2)) ∧ w'.cell? ⟨b6, 3, none⟩ = some (.int .i64 ((q0a b2 a8).f3)) ∧ w'.cell? ⟨b6, 4, none⟩ = some (.string ((q0a b2 a8).f4)) ∧ w'.cell? (c7.add ((a8).toNat * 4)) = some (.slice g7 ((q0d b7 a8).f0).length g8) ∧ w'.cell? ⟨(c7.add ((a8).toNat * 4)).block, (c7.add ((a8).toNat * 4)).off + 1, none⟩ = some (.int .i64 ((q0d b7 a8).f1)) ∧ w'.cell? ⟨(c7.add ((a8).toNat * 4)).block, (c7.add ((a8).toNat * 4)).off + 2, none⟩ = some (.int .i64 ((q0d b7 a8).f2)) ∧ w'.cell? ⟨(c7.add ((a8).toNat * 4)).block, (c7.add ((a8).toNat * 4)).off + 3, none⟩ = some (.int .i64 ((q0d b7 a8).f3))) ∧ (Kd.V (Kd.int .i64) 3 w' w.heap.size (fun k_ => ((d6 k_ ∨ d7 k_) ∨ w.heap.size ≤ k_) ∧ k_ ≠ b5 ∧ k_ ≠ c6 ∧ k_ ≠ b6 ∧ k_ ≠ s_) (.slice g7 ((q0d b7 a8).f0).length g8) ((q0d b7 a8).f0)) ∧ (Kd.V k49 49 w' w.heap.size (fun k_ => ((d6 k_ ∨ d7 k_) ∨ w.heap.size ≤ k_) ∧ k_ ≠ b5 ∧ k_ ≠ c6 ∧ k_ ≠ b6 ∧ k_ ≠ s_) (.slice i7 g5.length j2) g5) ∧ (Kd.V k51 51 w' w.heap.size (fun k_ => ((d6 k_ ∨ d7 k_) ∨ w.heap.size ≤ k_) ∧ k_ ≠ b5 ∧ k_ ≠ c6 ∧ k_ ≠ b6 ∧ k_ ≠ s_) (.slice i8 g6.length j3) g6) ∧ (Kd.V k49 49 w' w.heap.size (fun k_ => ((d6 k_ ∨ d7 k_) ∨ w.heap.size ≤ k_) ∧ k_ ≠ b5 ∧ k_ ≠ c6 ∧ k_ ≠ b6 ∧ k_ ≠ s_) (.slice (some c7) b7.length g9) b7) ∧ (Kd.V k51 51 w' w.heap.size (fun k_ => ((d6 k_ ∨ d7 k_) ∨ w.heap.size ≤ k_) ∧ k_ ≠ b5 ∧ k_ ≠ c6 ∧ k_ ≠ b6 ∧ k_ ≠ s_) (.slice (some f7) b2.length h0) b2) ∧ (w'.heap[b5]? = some (.cells #[.string f8, .string f9, .slice (some c7) b7.length g9, .int .i64 g0, .slice (some f7) b2.length h0] 27 (0, 0))) ∧ (w'.heap[c6]? = some (.cells #[.string (⟨#[]⟩ : ByteArray), .string (⟨#[]⟩ : ByteArray), .slice none 0 0, .int .i64 0, .slice none 0 0] 27 (0, 0))) ∧ (w'.heap[b6]? = some (.cells #[.int .i64 ((q0a b2 a8).f0), .int .i64 ((q0a b2 a8).f1), .int .i64 ((q0a b2 a8).f2), .int .i64 ((q0a b2 a8).f3), .string ((q0a b2 a8).f4)] 51 (0, 0))) ∧ (w'.heap[s_]? = some (.cells #[.int .i64 0, .int .i64 0, .int .i64 0, .int .i64 0, .string (⟨#[]⟩ : ByteArray)] 51 (0, 0))) ∧ (w.heap.size ≤ s_) ∧ (w.heap.size ≤ s_) ∧ (b5 ≠ s_) ∧ (s_ ≠ b5) ∧ (c6 ≠ s_) ∧ (s_ ≠ c6) ∧ (b6 ≠ s_) ∧ (s_ ≠ b6) ∧ (Below w.heap.size w w')) ?_ ?_
    rotate_left
    ·
     intro p3
     refine two_ (i := 8) (j := 12) (Ni := some 39) (Nj := some 14) (ba 15 511) (ba 15 4351) rfl rfl rfl rfl (two_of g1.out (by kernel_rfl)) (by decide) (by decide) (fun K hK => ?_) (fun K hK => ?_)
     ·
      skip
      refine q1v Try.func58 (by kernel_rfl) rfl #[.agg #[.slice g7 ((q0d b7 a8).f0).length g8, .int .i64 ((q0d b7 a8).f1), .int .i64 ((q0d b7 a8).f2), .int .i64 ((q0d b7 a8).f3)], .agg #[.int .i64 ((q0a b2 a8).f0), .int .i64 ((q0a b2 a8).f1), .int .i64 ((q0a b2 a8).f2), .int .i64 ((q0a b2 a8).f3), .string ((q0a b2 a8).f4)], .int .i64 a2] (by rfl) rfl rfl (by (try simp only [List.map_toArray, List.map_cons, List.map_nil]); first | done | rfl | (simp only [List.length_drop, List.length_take]; rfl)) ?_
      with_reducible refine (Gb.calls k _ _ ((q0d b7 a8).f0) ((q0d b7 a8).f1) ((q0d b7 a8).f2) ((q0d b7 a8).f3) ((q0a b2 a8).f0) ((q0a b2 a8).f1) ((q0a b2 a8).f2) ((q0a b2 a8).f3) ((q0a b2 a8).f4) a2 k6 k7 k8 k9 l0 n6 _ ?side1 ?side2 M8.out).mono ?_
      (case side1 => repeat (first | exact (by repeat (first | (with_reducible exact d9.out) | (with_reducible refine Kd.C_alloc ?_ _) | (with_reducible refine Kd.C_drewN ?_ _) | (with_reducible refine Kd.C_drew ?_) | exact d9.out)) | (with_reducible refine Kd.C_alloc ?_ _) | (with_reducible refine Kd.C_drewN ?_ _) | (with_reducible refine Kd.C_drew ?_)))
      (case side2 => exact l3.out)
      rintro e W5 ⟨rfl, hb⟩
      have h2 := (hb.cell (World.block_lt_of_cell? _ _ (b1.2.2.2.2.2.2.2.2.2.2.1))).trans (b1.2.2.2.2.2.2.2.2.2.2.1)
      have h3 := (hb.cell (World.block_lt_of_cell? _ _ (b1.2.2.2.2.2.2.2.2.2.2.2.1))).trans (b1.2.2.2.2.2.2.2.2.2.2.2.1)
      have h4 := (hb.cell (World.block_lt_of_cell? _ _ (b1.2.2.2.2.2.2.2.2.2.2.2.2.1))).trans (b1.2.2.2.2.2.2.2.2.2.2.2.2.1)
      have h5 := (hb.cell (World.block_lt_of_cell? _ _ (b1.2.2.2.2.2.2.2.2.2.2.2.2.2))).trans (b1.2.2.2.2.2.2.2.2.2.2.2.2.2)
      refine ⟨_, rfl, ?_⟩
      replace c9 := vB c9 hb
      replace d0 := vB d0 hb
      replace b0 := vB b0 hb
      replace d5 := vB d5 hb
      replace e0 := vB e0 hb
      replace a9 := kB a9 hb
      replace b4 := kB b4 hb
      replace b3 := kB b3 hb
      replace d9 := am (Kd.C_below (by repeat (first | (with_reducible exact d9.out) | (with_reducible refine Kd.C_alloc ?_ _) | (with_reducible refine Kd.C_drewN ?_ _) | (with_reducible refine Kd.C_drew ?_) | exact d9.out)) hb)
      replace HB := bS HB hb
      (try clear hb)
      (try clear hb2)
      (try clear hk)
      (try clear hi)
      refine hK.out _ _ ⟨bc a9.out, bc a9.out, bc a9.out, bc a9.out, bc a9.out, bc b3.out, bc b3.out, bc b3.out, bc b3.out, bc b3.out, h2, h3, h4, h5⟩ (fun b1 => ?_)
      clear hK K
      refine nh ?_
      refine pu 9 30 (ba 15 1023) g1 ?_
      refine pu 10 40 (ba 15 2047) g1 ?_
      refine pu 11 41 (ba 15 4095) g1 ?_
      refine one_ (i := 12) (N := some 14) (ba 15 8191) rfl rfl (q3i g1.out (by kernel_rfl)) (by decide) (fun K hK => ?_)
      refine box_step ?hg (N := 14) ?hd (cs := #[.int .i64 0, .int .i64 0, .int .i64 0, .int .i64 0, .string (⟨#[]⟩ : ByteArray)]) (t := 51) ?hr ?_; (case hd => rfl); (case hg => rfl); (case hr => first | (go_simp; done) | (go_simp; rfl))
      intro a5 hg W6 n9 hb
      have h2 := (hb.cell (World.block_lt_of_cell? _ _ (b1.2.2.2.2.2.2.2.2.2.2.1))).trans (b1.2.2.2.2.2.2.2.2.2.2.1)
      have h3 := (hb.cell (World.block_lt_of_cell? _ _ (b1.2.2.2.2.2.2.2.2.2.2.2.1))).trans (b1.2.2.2.2.2.2.2.2.2.2.2.1)
      have h4 := (hb.cell (World.block_lt_of_cell? _ _ (b1.2.2.2.2.2.2.2.2.2.2.2.2.1))).trans (b1.2.2.2.2.2.2.2.2.2.2.2.2.1)
      have h5 := (hb.cell (World.block_lt_of_cell? _ _ (b1.2.2.2.2.2.2.2.2.2.2.2.2.2))).trans (b1.2.2.2.2.2.2.2.2.2.2.2.2.2)
      replace c9 := vE c9 hg hb
      replace d0 := vE d0 hg hb
      replace b0 := vE b0 hg hb
      replace d5 := vE d5 hg hb
      replace e0 := vE e0 hg hb
      replace d9 := am (Kd.C_below (by repeat (first | (with_reducible exact d9.out) | (with_reducible refine Kd.C_alloc ?_ _) | (with_reducible refine Kd.C_drewN ?_ _) | (with_reducible refine Kd.C_drew ?_) | exact d9.out)) hb)
      have b8 := am (n9)
      have l2 := am (gs hg (pB HB.out))
      have l1 := am (gs hg (pB HB.out))
      replace HB := bS HB hb
      have a6 := nL hg a9
      have d3 := nG hg a9
      replace a9 := kB a9 hb
      have d2 := nL hg b4
      have d1 := nG hg b4
      replace b4 := kB b4 hb
      have a7 := nL hg b3
      have d4 := nG hg b3
      replace b3 := kB b3 hb
      clear hb n9 hg
      refine hK.out _ _ ⟨bc a9.out, bc a9.out, bc a9.out, bc a9.out, bc a9.out, bc b3.out, bc b3.out, bc b3.out, bc b3.out, bc b3.out, h2, h3, h4, h5⟩ (fun b1 => ?_)
      clear hK K
      refine nh ?_
      exact norm_ (by simp only [putAll, Act.put, List.setIfInBounds_toArray, List.set_cons_zero, List.set_cons_succ]) (p3 (a5) _ ⟨b1, (by exact Kd.V_mono (pV e0.out) (fun _ hk => ⟨hk.1.1, ⟨hk.1.2.1, ⟨hk.1.2.2.1, ⟨hk.1.2.2.2, hk.2⟩⟩⟩⟩)), (by exact Kd.V_mono (pV c9.out) (fun _ hk => ⟨hk.1.1, ⟨hk.1.2.1, ⟨hk.1.2.2.1, ⟨hk.1.2.2.2, hk.2⟩⟩⟩⟩)), (by exact Kd.V_mono (pV d0.out) (fun _ hk => ⟨hk.1.1, ⟨hk.1.2.1, ⟨hk.1.2.2.1, ⟨hk.1.2.2.2, hk.2⟩⟩⟩⟩)), (by exact Kd.V_mono (pV b0.out) (fun _ hk => ⟨hk.1.1, ⟨hk.1.2.1, ⟨hk.1.2.2.1, ⟨hk.1.2.2.2, hk.2⟩⟩⟩⟩)), (by exact Kd.V_mono (pV d5.out) (fun _ hk => ⟨hk.1.1, ⟨hk.1.2.1, ⟨hk.1.2.2.1, ⟨hk.1.2.2.2, hk.2⟩⟩⟩⟩)), (pk a9.out), (pk b4.out), (pk b3.out), (pk b8.out), l2.out, l1.out, a6.out, d3.out, d2.out, d1.out, a7.out, d4.out, (pB HB.out)⟩)
     skip
     refine box_step ?hg (N := 14) ?hd (cs := #[.int .i64 0, .int .i64 0, .int .i64 0, .int .i64 0, .string (⟨#[]⟩ : ByteArray)]) (t := 51) ?hr ?_; (case hd => rfl); (case hg => rfl); (case hr => first | (go_simp; done) | (go_simp; rfl))
     intro a5 hg W5 n9 hb
     have h2 := (hb.cell (World.block_lt_of_cell? _ _ (b1.2.2.2.2.2.2.2.2.2.2.1))).trans (b1.2.2.2.2.2.2.2.2.2.2.1)
     have h3 := (hb.cell (World.block_lt_of_cell? _ _ (b1.2.2.2.2.2.2.2.2.2.2.2.1))).trans (b1.2.2.2.2.2.2.2.2.2.2.2.1)
     have h4 := (hb.cell (World.block_lt_of_cell? _ _ (b1.2.2.2.2.2.2.2.2.2.2.2.2.1))).trans (b1.2.2.2.2.2.2.2.2.2.2.2.2.1)
     have h5 := (hb.cell (World.block_lt_of_cell? _ _ (b1.2.2.2.2.2.2.2.2.2.2.2.2.2))).trans (b1.2.2.2.2.2.2.2.2.2.2.2.2.2)
     replace c9 := vE c9 hg hb
     replace d0 := vE d0 hg hb
     replace b0 := vE b0 hg hb
     replace d5 := vE d5 hg hb
     replace e0 := vE e0 hg hb
     replace d9 := am (Kd.C_below (by repeat (first | (with_reducible exact d9.out) | (with_reducible refine Kd.C_alloc ?_ _) | (with_reducible refine Kd.C_drewN ?_ _) | (with_reducible refine Kd.C_drew ?_) | exact d9.out)) hb)
     have b8 := am (n9)
     have l2 := am (gs hg (pB HB.out))
     have l1 := am (gs hg (pB HB.out))
     replace HB := bS HB hb
     have a6 := nL hg a9
     have d3 := nG hg a9
     replace a9 := kB a9 hb
     have d2 := nL hg b4
     have d1 := nG hg b4
     replace b4 := kB b4 hb
     have a7 := nL hg b3
     have d4 := nG hg b3
     replace b3 := kB b3 hb
     clear hb n9 hg
     refine hK.out _ _ ⟨bc a9.out, bc a9.out, bc a9.out, bc a9.out, bc a9.out, bc b3.out, bc b3.out, bc b3.out, bc b3.out, bc b3.out, h2, h3, h4, h5⟩ (fun b1 => ?_)
     clear hK K
     refine nh ?_
     refine one_ (i := 8) (N := some 39) (ba 15 4607) rfl rfl (q3i g1.out (by kernel_rfl)) (by decide) (fun K hK => ?_)
     refine q1v Try.func58 (by kernel_rfl) rfl #[.agg #[.slice g7 ((q0d b7 a8).f0).length g8, .int .i64 ((q0d b7 a8).f1), .int .i64 ((q0d b7 a8).f2), .int .i64 ((q0d b7 a8).f3)], .agg #[.int .i64 ((q0a b2 a8).f0), .int .i64 ((q0a b2 a8).f1), .int .i64 ((q0a b2 a8).f2), .int .i64 ((q0a b2 a8).f3), .string ((q0a b2 a8).f4)], .int .i64 a2] (by rfl) rfl rfl (by (try simp only [List.map_toArray, List.map_cons, List.map_nil]); first | done | rfl | (simp only [List.length_drop, List.length_take]; rfl)) ?_
     with_reducible refine (Gb.calls k _ _ ((q0d b7 a8).f0) ((q0d b7 a8).f1) ((q0d b7 a8).f2) ((q0d b7 a8).f3) ((q0a b2 a8).f0) ((q0a b2 a8).f1) ((q0a b2 a8).f2) ((q0a b2 a8).f3) ((q0a b2 a8).f4) a2 k6 k7 k8 k9 l0 n6 _ ?side1 ?side2 M8.out).mono ?_
     (case side1 => repeat (first | exact (by repeat (first | (with_reducible exact d9.out) | (with_reducible refine Kd.C_alloc ?_ _) | (with_reducible refine Kd.C_drewN ?_ _) | (with_reducible refine Kd.C_drew ?_) | exact d9.out)) | (with_reducible refine Kd.C_alloc ?_ _) | (with_reducible refine Kd.C_drewN ?_ _) | (with_reducible refine Kd.C_drew ?_)))
     (case side2 => exact l3.out)
     rintro e W6 ⟨rfl, hb⟩
     have h2 := (hb.cell (World.block_lt_of_cell? _ _ (b1.2.2.2.2.2.2.2.2.2.2.1))).trans (b1.2.2.2.2.2.2.2.2.2.2.1)
     have h3 := (hb.cell (World.block_lt_of_cell? _ _ (b1.2.2.2.2.2.2.2.2.2.2.2.1))).trans (b1.2.2.2.2.2.2.2.2.2.2.2.1)
     have h4 := (hb.cell (World.block_lt_of_cell? _ _ (b1.2.2.2.2.2.2.2.2.2.2.2.2.1))).trans (b1.2.2.2.2.2.2.2.2.2.2.2.2.1)
     have h5 := (hb.cell (World.block_lt_of_cell? _ _ (b1.2.2.2.2.2.2.2.2.2.2.2.2.2))).trans (b1.2.2.2.2.2.2.2.2.2.2.2.2.2)
     refine ⟨_, rfl, ?_⟩
     replace c9 := vB c9 hb
     replace d0 := vB d0 hb
     replace b0 := vB b0 hb
     replace d5 := vB d5 hb
     replace e0 := vB e0 hb
     replace a9 := kB a9 hb
     replace b4 := kB b4 hb
     replace b3 := kB b3 hb
     replace d9 := am (Kd.C_below (by repeat (first | (with_reducible exact d9.out) | (with_reducible refine Kd.C_alloc ?_ _) | (with_reducible refine Kd.C_drewN ?_ _) | (with_reducible refine Kd.C_drew ?_) | exact d9.out)) hb)
     replace b8 := kB b8 hb
     replace HB := bS HB hb
     (try clear hb)
     (try clear hb2)
     (try clear hk)
     (try clear hi)
     refine hK.out _ _ ⟨bc a9.out, bc a9.out, bc a9.out, bc a9.out, bc a9.out, bc b3.out, bc b3.out, bc b3.out, bc b3.out, bc b3.out, h2, h3, h4, h5⟩ (fun b1 => ?_)
     clear hK K
     refine nh ?_
     refine pu 9 30 (ba 15 5119) g1 ?_
     refine pu 10 40 (ba 15 6143) g1 ?_
     refine pu 11 41 (ba 15 8191) g1 ?_
     exact norm_ (by simp only [putAll, Act.put, List.setIfInBounds_toArray, List.set_cons_zero, List.set_cons_succ]) (p3 (a5) _ ⟨b1, (by exact Kd.V_mono (pV e0.out) (fun _ hk => ⟨hk.1.1, ⟨hk.1.2.1, ⟨hk.1.2.2.1, ⟨hk.1.2.2.2, hk.2⟩⟩⟩⟩)), (by exact Kd.V_mono (pV c9.out) (fun _ hk => ⟨hk.1.1, ⟨hk.1.2.1, ⟨hk.1.2.2.1, ⟨hk.1.2.2.2, hk.2⟩⟩⟩⟩)), (by exact Kd.V_mono (pV d0.out) (fun _ hk => ⟨hk.1.1, ⟨hk.1.2.1, ⟨hk.1.2.2.1, ⟨hk.1.2.2.2, hk.2⟩⟩⟩⟩)), (by exact Kd.V_mono (pV b0.out) (fun _ hk => ⟨hk.1.1, ⟨hk.1.2.1, ⟨hk.1.2.2.1, ⟨hk.1.2.2.2, hk.2⟩⟩⟩⟩)), (by exact Kd.V_mono (pV d5.out) (fun _ hk => ⟨hk.1.1, ⟨hk.1.2.1, ⟨hk.1.2.2.1, ⟨hk.1.2.2.2, hk.2⟩⟩⟩⟩)), (pk a9.out), (pk b4.out), (pk b3.out), (pk b8.out), l2.out, l1.out, a6.out, d3.out, d2.out, d1.out, a7.out, d4.out, (pB HB.out)⟩)
    rintro a5 h7 ⟨S7, N7, N8, N9, O0, O1, O2, O3, O4, O5, O6, t7, t8, t9, u0, u1, u2, u3, u4⟩
    have u9 : q0e (Kd.V (Kd.int .i64) 3 h7 w.heap.size (fun k_ => ((d6 k_ ∨ d7 k_) ∨ w.heap.size ≤ k_) ∧ k_ ≠ b5 ∧ k_ ≠ c6 ∧ k_ ≠ b6 ∧ k_ ≠ a5) (.slice g7 ((q0d b7 a8).f0).length g8) ((q0d b7 a8).f0)) := ⟨N7⟩
    have v8 : q0e (Kd.V k49 49 h7 w.heap.size (fun k_ => ((d6 k_ ∨ d7 k_) ∨ w.heap.size ≤ k_) ∧ k_ ≠ b5 ∧ k_ ≠ c6 ∧ k_ ≠ b6 ∧ k_ ≠ a5) (.slice i7 g5.length j2) g5) := ⟨N8⟩
    have v9 : q0e (Kd.V k51 51 h7 w.heap.size (fun k_ => ((d6 k_ ∨ d7 k_) ∨ w.heap.size ≤ k_) ∧ k_ ≠ b5 ∧ k_ ≠ c6 ∧ k_ ≠ b6 ∧ k_ ≠ a5) (.slice i8 g6.length j3) g6) := ⟨N9⟩
    have w2 : q0e (Kd.V k49 49 h7 w.heap.size (fun k_ => ((d6 k_ ∨ d7 k_) ∨ w.heap.size ≤ k_) ∧ k_ ≠ b5 ∧ k_ ≠ c6 ∧ k_ ≠ b6 ∧ k_ ≠ a5) (.slice (some c7) b7.length g9) b7) := ⟨O0⟩
    have w3 : q0e (Kd.V k51 51 h7 w.heap.size (fun k_ => ((d6 k_ ∨ d7 k_) ∨ w.heap.size ≤ k_) ∧ k_ ≠ b5 ∧ k_ ≠ c6 ∧ k_ ≠ b6 ∧ k_ ≠ a5) (.slice (some f7) b2.length h0) b2) := ⟨O1⟩
    have w4 : q0e (h7.heap[b5]? = some (.cells #[.string f8, .string f9, .slice (some c7) b7.length g9, .int .i64 g0, .slice (some f7) b2.length h0] 27 (0, 0))) := ⟨O2⟩
    have w5 : q0e (h7.heap[c6]? = some (.cells #[.string (⟨#[]⟩ : ByteArray), .string (⟨#[]⟩ : ByteArray), .slice none 0 0, .int .i64 0, .slice none 0 0] 27 (0, 0))) := ⟨O3⟩
    have w6 : q0e (h7.heap[b6]? = some (.cells #[.int .i64 ((q0a b2 a8).f0), .int .i64 ((q0a b2 a8).f1), .int .i64 ((q0a b2 a8).f2), .int .i64 ((q0a b2 a8).f3), .string ((q0a b2 a8).f4)] 51 (0, 0))) := ⟨O4⟩
    have R7 : q0e (h7.heap[a5]? = some (.cells #[.int .i64 0, .int .i64 0, .int .i64 0, .int .i64 0, .string (⟨#[]⟩ : ByteArray)] 51 (0, 0))) := ⟨O5⟩
    have R8 : q0e (w.heap.size ≤ a5) := ⟨O6⟩
    have v0 : q0e (w.heap.size ≤ a5) := ⟨t7⟩
    have v1 : q0e (b5 ≠ a5) := ⟨t8⟩
    have v2 : q0e (a5 ≠ b5) := ⟨t9⟩
    have v3 : q0e (c6 ≠ a5) := ⟨u0⟩
    have v4 : q0e (a5 ≠ c6) := ⟨u1⟩
    have v5 : q0e (b6 ≠ a5) := ⟨u2⟩
    have v6 : q0e (a5 ≠ b6) := ⟨u3⟩
    have v7 : q0e (Below w.heap.size w h7) := ⟨u4⟩
    clear c9 d0 b0 d5 a9 b4 b3 HB N7 N8 N9 O0 O1 O2 O3 O4 O5 O6 t7 t8 t9 u0 u1 u2 u3 u4
    have e0 := u9
    have c9 := v8
    have d0 := v9
    have b0 := w2
    have d5 := w3
    have a9 := w4
    have b4 := w5
    have b3 := w6
    have b8 := R7
    have l2 := R8
    have l1 := v0
    have a6 := v1
    have d3 := v2
    have d2 := v3
    have d1 := v4
    have a7 := v5
    have d4 := v6
    have HB := v7
    clear u9 v8 v9 w2 w3 w4 w5 w6 R7 R8 v0 v1 v2 v3 v4 v5 v6 v7
    have b1 : h7.cell? ⟨b5, 0, none⟩ = some (.string f8) ∧ h7.cell? ⟨b5, 1, none⟩ = some (.string f9) ∧ h7.cell? ⟨b5, 2, none⟩ = some (.slice (some c7) b7.length g9) ∧ h7.cell? ⟨b5, 3, none⟩ = some (.int .i64 g0) ∧ h7.cell? ⟨b5, 4, none⟩ = some (.slice (some f7) b2.length h0) ∧ h7.cell? ⟨b6, 0, none⟩ = some (.int .i64 ((q0a b2 a8).f0)) ∧ h7.cell? ⟨b6, 1, none⟩ = some (.int .i64 ((q0a b2 a8).f1)) ∧ h7.cell? ⟨b6, 2, none⟩ = some (.int .i64 ((q0a b2 a8).f2)) ∧ h7.cell? ⟨b6, 3, none⟩ = some (.int .i64 ((q0a b2 a8).f3)) ∧ h7.cell? ⟨b6, 4, none⟩ = some (.string ((q0a b2 a8).f4)) ∧ h7.cell? (c7.add ((a8).toNat * 4)) = some (.slice g7 ((q0d b7 a8).f0).length g8) ∧ h7.cell? ⟨(c7.add ((a8).toNat * 4)).block, (c7.add ((a8).toNat * 4)).off + 1, none⟩ = some (.int .i64 ((q0d b7 a8).f1)) ∧ h7.cell? ⟨(c7.add ((a8).toNat * 4)).block, (c7.add ((a8).toNat * 4)).off + 2, none⟩ = some (.int .i64 ((q0d b7 a8).f2)) ∧ h7.cell? ⟨(c7.add ((a8).toNat * 4)).block, (c7.add ((a8).toNat * 4)).off + 3, none⟩ = some (.int .i64 ((q0d b7 a8).f3)) := S7
    refine norm_ (a' := ?_) ?_ ?_
    rotate_left
    ·
     simp only [putAll, Act.put, List.setIfInBounds_toArray, List.set_cons_zero, List.set_cons_succ]
     rfl
    refine one_ (i := 13) (N := none) (ba 15 16383) rfl rfl (q3i g1.out (by kernel_rfl)) (by decide) (fun K hK => ?_)
    have S8 : h7.cell? ⟨a5, 0, none⟩ = some (.int .i64 0) := bc b8.out
    have O7 := z1 b8.out
    have E2 := a6.out
    have E3 := d2.out
    have E4 := a7.out
    have B2 := d3.out
    have B3 := d1.out
    have B4 := d4.out
    have S9 : h7.cell? ⟨a5, 1, none⟩ = some (.int .i64 0) := bc b8.out
    have O8 := q0k b8.out 1
    have E5 := a6.out
    have E6 := d2.out
    have E7 := a7.out
    have B5 := d3.out
    have B6 := d1.out
    have B7 := d4.out
    have T0 : h7.cell? ⟨a5, 2, none⟩ = some (.int .i64 0) := bc b8.out
    have O9 := q0k b8.out 2
    have E8 := a6.out
    have E9 := d2.out
    have H0 := a7.out
    have B8 := d3.out
    have B9 := d1.out
    have C0 := d4.out
    have T1 : h7.cell? ⟨a5, 3, none⟩ = some (.int .i64 0) := bc b8.out
    have P0 := q0k b8.out 3
    have H1 := a6.out
    have H2 := d2.out
    have H3 := a7.out
    have C1 := d3.out
    have C2 := d1.out
    have C3 := d4.out
    have T2 : h7.cell? ⟨a5, 4, none⟩ = some (.string (⟨#[]⟩ : ByteArray)) := bc b8.out
    have P1 := q0k b8.out 4
    have H4 := a6.out
    have H5 := d2.out
    have H6 := a7.out
    have C4 := d3.out
    have C5 := d1.out
    have C6 := d4.out
    refine skip_ (w1 := ?_) (by rfl) rfl ?_ ?_
    rotate_left
    ·
     go_simp
     rfl
    refine hK.out _ _ ⟨((cell_far (p := ⟨a5, _, none⟩) a6.out _).trans (((cell_far (p := ⟨a5, _, none⟩) a6.out _).trans (((cell_far (p := ⟨a5, _, none⟩) a6.out _).trans (((cell_far (p := ⟨a5, _, none⟩) a6.out _).trans (((cell_far (p := ⟨a5, _, none⟩) a6.out _).trans (b1.1)))))))))), ((cell_far (p := ⟨a5, _, none⟩) a6.out _).trans (((cell_far (p := ⟨a5, _, none⟩) a6.out _).trans (((cell_far (p := ⟨a5, _, none⟩) a6.out _).trans (((cell_far (p := ⟨a5, _, none⟩) a6.out _).trans (((cell_far (p := ⟨a5, _, none⟩) a6.out _).trans (b1.2.1)))))))))), ((cell_far (p := ⟨a5, _, none⟩) a6.out _).trans (((cell_far (p := ⟨a5, _, none⟩) a6.out _).trans (((cell_far (p := ⟨a5, _, none⟩) a6.out _).trans (((cell_far (p := ⟨a5, _, none⟩) a6.out _).trans (((cell_far (p := ⟨a5, _, none⟩) a6.out _).trans (b1.2.2.1)))))))))), ((cell_far (p := ⟨a5, _, none⟩) a6.out _).trans (((cell_far (p := ⟨a5, _, none⟩) a6.out _).trans (((cell_far (p := ⟨a5, _, none⟩) a6.out _).trans (((cell_far (p := ⟨a5, _, none⟩) a6.out _).trans (((cell_far (p := ⟨a5, _, none⟩) a6.out _).trans (b1.2.2.2.1)))))))))), ((cell_far (p := ⟨a5, _, none⟩) a6.out _).trans (((cell_far (p := ⟨a5, _, none⟩) a6.out _).trans (((cell_far (p := ⟨a5, _, none⟩) a6.out _).trans (((cell_far (p := ⟨a5, _, none⟩) a6.out _).trans (((cell_far (p := ⟨a5, _, none⟩) a6.out _).trans (b1.2.2.2.2.1)))))))))), ((cell_far (p := ⟨a5, _, none⟩) a7.out _).trans (((cell_far (p := ⟨a5, _, none⟩) a7.out _).trans (((cell_far (p := ⟨a5, _, none⟩) a7.out _).trans (((cell_far (p := ⟨a5, _, none⟩) a7.out _).trans (((cell_far (p := ⟨a5, _, none⟩) a7.out _).trans (b1.2.2.2.2.2.1)))))))))), ((cell_far (p := ⟨a5, _, none⟩) a7.out _).trans (((cell_far (p := ⟨a5, _, none⟩) a7.out _).trans (((cell_far (p := ⟨a5, _, none⟩) a7.out _).trans (((cell_far (p := ⟨a5, _, none⟩) a7.out _).trans (((cell_far (p := ⟨a5, _, none⟩) a7.out _).trans (b1.2.2.2.2.2.2.1)))))))))), ((cell_far (p := ⟨a5, _, none⟩) a7.out _).trans (((cell_far (p := ⟨a5, _, none⟩) a7.out _).trans (((cell_far (p := ⟨a5, _, none⟩) a7.out _).trans (((cell_far (p := ⟨a5, _, none⟩) a7.out _).trans (((cell_far (p := ⟨a5, _, none⟩) a7.out _).trans (b1.2.2.2.2.2.2.2.1)))))))))), ((cell_far (p := ⟨a5, _, none⟩) a7.out _).trans (((cell_far (p := ⟨a5, _, none⟩) a7.out _).trans (((cell_far (p := ⟨a5, _, none⟩) a7.out _).trans (((cell_far (p := ⟨a5, _, none⟩) a7.out _).trans (((cell_far (p := ⟨a5, _, none⟩) a7.out _).trans (b1.2.2.2.2.2.2.2.2.1)))))))))), ((cell_far (p := ⟨a5, _, none⟩) a7.out _).trans (((cell_far (p := ⟨a5, _, none⟩) a7.out _).trans (((cell_far (p := ⟨a5, _, none⟩) a7.out _).trans (((cell_far (p := ⟨a5, _, none⟩) a7.out _).trans (((cell_far (p := ⟨a5, _, none⟩) a7.out _).trans (b1.2.2.2.2.2.2.2.2.2.1)))))))))), ((cell_far (p := ⟨a5, _, none⟩) (by first | exact vaw b0.out (fun _ hk => hk.2.2.2.2) | (rw [add_block]; exact vaw b0.out (fun _ hk => hk.2.2.2.2)) | (show (Addr.add _ _).block ≠ _; rw [add_block]; exact vaw b0.out (fun _ hk => hk.2.2.2.2)) | (dsimp only; exact vaw b0.out (fun _ hk => hk.2.2.2.2))) _).trans (((cell_far (p := ⟨a5, _, none⟩) (by first | exact vaw b0.out (fun _ hk => hk.2.2.2.2) | (rw [add_block]; exact vaw b0.out (fun _ hk => hk.2.2.2.2)) | (show (Addr.add _ _).block ≠ _; rw [add_block]; exact vaw b0.out (fun _ hk => hk.2.2.2.2)) | (dsimp only; exact vaw b0.out (fun _ hk => hk.2.2.2.2))) _).trans (((cell_far (p := ⟨a5, _, none⟩) (by first | exact vaw b0.out (fun _ hk => hk.2.2.2.2) | (rw [add_block]; exact vaw b0.out (fun _ hk => hk.2.2.2.2)) | (show (Addr.add _ _).block ≠ _; rw [add_block]; exact vaw b0.out (fun _ hk => hk.2.2.2.2)) | (dsimp only; exact vaw b0.out (fun _ hk => hk.2.2.2.2))) _).trans (((cell_far (p := ⟨a5, _, none⟩) (by first | exact vaw b0.out (fun _ hk => hk.2.2.2.2) | (rw [add_block]; exact vaw b0.out (fun _ hk => hk.2.2.2.2)) | (show (Addr.add _ _).block ≠ _; rw [add_block]; exact vaw b0.out (fun _ hk => hk.2.2.2.2)) | (dsimp only; exact vaw b0.out (fun _ hk => hk.2.2.2.2))) _).trans (((cell_far (p := ⟨a5, _, none⟩) (by first | exact vaw b0.out (fun _ hk => hk.2.2.2.2) | (rw [add_block]; exact vaw b0.out (fun _ hk => hk.2.2.2.2)) | (show (Addr.add _ _).block ≠ _; rw [add_block]; exact vaw b0.out (fun _ hk => hk.2.2.2.2)) | (dsimp only; exact vaw b0.out (fun _ hk => hk.2.2.2.2))) _).trans (b1.2.2.2.2.2.2.2.2.2.2.1)))))))))), ((cell_far (p := ⟨a5, _, none⟩) (by first | exact vaw b0.out (fun _ hk => hk.2.2.2.2) | (rw [add_block]; exact vaw b0.out (fun _ hk => hk.2.2.2.2)) | (show (Addr.add _ _).block ≠ _; rw [add_block]; exact vaw b0.out (fun _ hk => hk.2.2.2.2)) | (dsimp only; exact vaw b0.out (fun _ hk => hk.2.2.2.2))) _).trans (((cell_far (p := ⟨a5, _, none⟩) (by first | exact vaw b0.out (fun _ hk => hk.2.2.2.2) | (rw [add_block]; exact vaw b0.out (fun _ hk => hk.2.2.2.2)) | (show (Addr.add _ _).block ≠ _; rw [add_block]; exact vaw b0.out (fun _ hk => hk.2.2.2.2)) | (dsimp only; exact vaw b0.out (fun _ hk => hk.2.2.2.2))) _).trans (((cell_far (p := ⟨a5, _, none⟩) (by first | exact vaw b0.out (fun _ hk => hk.2.2.2.2) | (rw [add_block]; exact vaw b0.out (fun _ hk => hk.2.2.2.2)) | (show (Addr.add _ _).block ≠ _; rw [add_block]; exact vaw b0.out (fun _ hk => hk.2.2.2.2)) | (dsimp only; exact vaw b0.out (fun _ hk => hk.2.2.2.2))) _).trans (((cell_far (p := ⟨a5, _, none⟩) (by first | exact vaw b0.out (fun _ hk => hk.2.2.2.2) | (rw [add_block]; exact vaw b0.out (fun _ hk => hk.2.2.2.2)) | (show (Addr.add _ _).block ≠ _; rw [add_block]; exact vaw b0.out (fun _ hk => hk.2.2.2.2)) | (dsimp only; exact vaw b0.out (fun _ hk => hk.2.2.2.2))) _).trans (((cell_far (p := ⟨a5, _, none⟩) (by first | exact vaw b0.out (fun _ hk => hk.2.2.2.2) | (rw [add_block]; exact vaw b0.out (fun _ hk => hk.2.2.2.2)) | (show (Addr.add _ _).block ≠ _; rw [add_block]; exact vaw b0.out (fun _ hk => hk.2.2.2.2)) | (dsimp only; exact vaw b0.out (fun _ hk => hk.2.2.2.2))) _).trans (b1.2.2.2.2.2.2.2.2.2.2.2.1)))))))))), ((cell_far (p := ⟨a5, _, none⟩) (by first | exact vaw b0.out (fun _ hk => hk.2.2.2.2) | (rw [add_block]; exact vaw b0.out (fun _ hk => hk.2.2.2.2)) | (show (Addr.add _ _).block ≠ _; rw [add_block]; exact vaw b0.out (fun _ hk => hk.2.2.2.2)) | (dsimp only; exact vaw b0.out (fun _ hk => hk.2.2.2.2))) _).trans (((cell_far (p := ⟨a5, _, none⟩) (by first | exact vaw b0.out (fun _ hk => hk.2.2.2.2) | (rw [add_block]; exact vaw b0.out (fun _ hk => hk.2.2.2.2)) | (show (Addr.add _ _).block ≠ _; rw [add_block]; exact vaw b0.out (fun _ hk => hk.2.2.2.2)) | (dsimp only; exact vaw b0.out (fun _ hk => hk.2.2.2.2))) _).trans (((cell_far (p := ⟨a5, _, none⟩) (by first | exact vaw b0.out (fun _ hk => hk.2.2.2.2) | (rw [add_block]; exact vaw b0.out (fun _ hk => hk.2.2.2.2)) | (show (Addr.add _ _).block ≠ _; rw [add_block]; exact vaw b0.out (fun _ hk => hk.2.2.2.2)) | (dsimp only; exact vaw b0.out (fun _ hk => hk.2.2.2.2))) _).trans (((cell_far (p := ⟨a5, _, none⟩) (by first | exact vaw b0.out (fun _ hk => hk.2.2.2.2) | (rw [add_block]; exact vaw b0.out (fun _ hk => hk.2.2.2.2)) | (show (Addr.add _ _).block ≠ _; rw [add_block]; exact vaw b0.out (fun _ hk => hk.2.2.2.2)) | (dsimp only; exact vaw b0.out (fun _ hk => hk.2.2.2.2))) _).trans (((cell_far (p := ⟨a5, _, none⟩) (by first | exact vaw b0.out (fun _ hk => hk.2.2.2.2) | (rw [add_block]; exact vaw b0.out (fun _ hk => hk.2.2.2.2)) | (show (Addr.add _ _).block ≠ _; rw [add_block]; exact vaw b0.out (fun _ hk => hk.2.2.2.2)) | (dsimp only; exact vaw b0.out (fun _ hk => hk.2.2.2.2))) _).trans (b1.2.2.2.2.2.2.2.2.2.2.2.2.1)))))))))), ((cell_far (p := ⟨a5, _, none⟩) (by first | exact vaw b0.out (fun _ hk => hk.2.2.2.2) | (rw [add_block]; exact vaw b0.out (fun _ hk => hk.2.2.2.2)) | (show (Addr.add _ _).block ≠ _; rw [add_block]; exact vaw b0.out (fun _ hk => hk.2.2.2.2)) | (dsimp only; exact vaw b0.out (fun _ hk => hk.2.2.2.2))) _).trans (((cell_far (p := ⟨a5, _, none⟩) (by first | exact vaw b0.out (fun _ hk => hk.2.2.2.2) | (rw [add_block]; exact vaw b0.out (fun _ hk => hk.2.2.2.2)) | (show (Addr.add _ _).block ≠ _; rw [add_block]; exact vaw b0.out (fun _ hk => hk.2.2.2.2)) | (dsimp only; exact vaw b0.out (fun _ hk => hk.2.2.2.2))) _).trans (((cell_far (p := ⟨a5, _, none⟩) (by first | exact vaw b0.out (fun _ hk => hk.2.2.2.2) | (rw [add_block]; exact vaw b0.out (fun _ hk => hk.2.2.2.2)) | (show (Addr.add _ _).block ≠ _; rw [add_block]; exact vaw b0.out (fun _ hk => hk.2.2.2.2)) | (dsimp only; exact vaw b0.out (fun _ hk => hk.2.2.2.2))) _).trans (((cell_far (p := ⟨a5, _, none⟩) (by first | exact vaw b0.out (fun _ hk => hk.2.2.2.2) | (rw [add_block]; exact vaw b0.out (fun _ hk => hk.2.2.2.2)) | (show (Addr.add _ _).block ≠ _; rw [add_block]; exact vaw b0.out (fun _ hk => hk.2.2.2.2)) | (dsimp only; exact vaw b0.out (fun _ hk => hk.2.2.2.2))) _).trans (((cell_far (p := ⟨a5, _, none⟩) (by first | exact vaw b0.out (fun _ hk => hk.2.2.2.2) | (rw [add_block]; exact vaw b0.out (fun _ hk => hk.2.2.2.2)) | (show (Addr.add _ _).block ≠ _; rw [add_block]; exact vaw b0.out (fun _ hk => hk.2.2.2.2)) | (dsimp only; exact vaw b0.out (fun _ hk => hk.2.2.2.2))) _).trans (b1.2.2.2.2.2.2.2.2.2.2.2.2.2))))))))))⟩ (fun b1 => ?_)
    clear hK K
    refine pu 14 15 (ba 15 32767) g1 ?_
    refine q2c (q3l g1.out (by kernel_rfl)) ?_
    go_upto_if 43 with (fail)
    go_cut [15] (fun M4 wc => ∃ (kq : Nat) (j9 : Int) (e6 : Int) (e7 : Int) (e8 : Int) (e9 : Int) (f5 : ByteArray), M4 = .int .i64 j9 ∧ q0e (Fd.j0 kq a1 a2 a8 j9 f8 f9 b7 g0 b2 ((q0a b2 a8).f0) ((q0a b2 a8).f1) ((q0a b2 a8).f2) ((q0a b2 a8).f3) ((q0a b2 a8).f4) e6 e7 e8 e9 f5 = some (r1, r2, r3, r4, r5, r6)) ∧ q0e (kq ≤ k) ∧ q0e (Kd.V k49 49 wc w.heap.size (fun k_ => ((d6 k_ ∨ d7 k_) ∨ w.heap.size ≤ k_) ∧ k_ ≠ b5 ∧ k_ ≠ c6 ∧ k_ ≠ b6 ∧ k_ ≠ a5) (.slice (some c7) b7.length g9) b7) ∧ q0e (Kd.V k51 51 wc w.heap.size (fun k_ => ((d6 k_ ∨ d7 k_) ∨ w.heap.size ≤ k_) ∧ k_ ≠ b5 ∧ k_ ≠ c6 ∧ k_ ≠ b6 ∧ k_ ≠ a5) (.slice (some f7) b2.length h0) b2) ∧ q0e (wc.heap[b5]? = some (.cells #[.string f8, .string f9, (.slice (some c7) b7.length g9), .int .i64 g0, (.slice (some f7) b2.length h0)] 27 (0, 0))) ∧ q0e (wc.heap[c6]? = some (.cells #[.string (⟨#[]⟩ : ByteArray), .string (⟨#[]⟩ : ByteArray), (.slice none 0 0), .int .i64 0, (.slice none 0 0)] 27 (0, 0))) ∧ q0e (wc.heap[b6]? = some (.cells #[.int .i64 ((q0a b2 a8).f0), .int .i64 ((q0a b2 a8).f1), .int .i64 ((q0a b2 a8).f2), .int .i64 ((q0a b2 a8).f3), .string ((q0a b2 a8).f4)] 51 (0, 0))) ∧ q0e (wc.heap[a5]? = some (.cells #[.int .i64 e6, .int .i64 e7, .int .i64 e8, .int .i64 e9, .string f5] 51 (0, 0))) ∧ q0e (Below w.heap.size w wc))
    case first =>
     have H := p5.out
     clear p5
     by_cases s8 : a1 = 1
     ·
      rw [if_pos s8] at H
      obtain ⟨k4, s9⟩ := qt s8
      clear s8
      (first | rw [k4] | (simp only [q1x, q2b]; rw [k4]) | skip)
      replace H := Option.bind_eq_some_iff.mp H
      obtain ⟨⟨w7, w8, x0, x2, x3, x4⟩, r0, H⟩ := H
      try dsimp only at H
      have S1 := am r0
      clear r0
      have H' := am H
      clear H
      have Q1 := nn i5
      have Q2 := nn i6
      have Q3 := nn a7
      have A4 := y5 b3
      go_wp2_with (first | ((with_reducible refine gC 59 ?_); refine gL 47 Try.func59 #[.agg #[.int .i64 ((q0a b2 a8).f0), .int .i64 ((q0a b2 a8).f1), .int .i64 ((q0a b2 a8).f2), .int .i64 ((q0a b2 a8).f3), .string ((q0a b2 a8).f4)], .string a4] ?_; (with_reducible refine (Gh.calls ((q0a b2 a8).f0) ((q0a b2 a8).f1) ((q0a b2 a8).f2) ((q0a b2 a8).f3) ((q0a b2 a8).f4) a4 w7 w8 x0 x2 x3 x4 _ S1.out).mono ?_); rintro e X5 ⟨rfl, hb⟩; refine ⟨_, rfl, ?_⟩; replace c9 := vB c9 hb; replace d0 := vB d0 hb; replace b0 := vB b0 hb; replace d5 := vB d5 hb; replace e0 := vB e0 hb; replace a9 := kB a9 hb; replace b4 := kB b4 hb; replace b3 := kB b3 hb; replace b8 := am (q0c (g := a5) (o := .cells #[.int .i64 k6, .int .i64 k7, .int .i64 k8, .int .i64 k9, .string l0] 51 (0, 0)) (pP b8.out) hb); replace HB := bS HB hb; (try clear hb); have Q4 := nn d3; have Q5 := nn d1; have A5 := y5 b8))
      go_meet
      case rel => exact ⟨_, (x4), (w7), (w8), (x0), (x2), (x3), el, H', ol, ⟨(pV b0.out)⟩, ⟨(pV d5.out)⟩, ⟨pk a9.out⟩, ⟨pk b4.out⟩, ⟨pk b3.out⟩, ⟨pP b8.out⟩, ⟨pB HB.out⟩⟩
     rw [if_neg s8] at H
     obtain ⟨k4, s9⟩ := qf s8
     (first | rw [k4] | (simp only [q1x, q2b]; rw [k4]) | skip)
     have H' := am H
     clear H
     go_wp2
     go_meet
     case rel => exact ⟨_, (n6), (k6), (k7), (k8), (k9), (l0), el, H', ol, ⟨(pV b0.out)⟩, ⟨(pV d5.out)⟩, ⟨pk a9.out⟩, ⟨pk b4.out⟩, ⟨pk b3.out⟩, ⟨pP b8.out⟩, ⟨pB HB.out⟩⟩
    case rest =>
     clear p5
     try clear q7
     try clear p1
     try clear q8
     try clear p2
     try clear l5
     try clear l6
     try clear l7
     try clear l8
     try clear m3
     try clear m4
     try clear m5
     try clear m6
     try clear m7
     try clear h6
     try clear i0
     try clear i1
     try clear i2
     try clear o3
     try clear n4
     try clear o4
     try clear n5
     obtain ⟨kq, j9, e6, e7, e8, e9, f5, rfl, HA, s6, a0, d8, a9, b4, b3, b8, HB⟩ := hcut
     cases kq with
     | zero => exact absurd HA.out (by simp [Fd.j0])
     | succ u7 =>
      have H := HA.out
      clear HA
      simp only [Fd.j0] at H
      have p6 := am H
      clear H
      go_upto_if 51 with (fail)
      go_cut [15] (fun M4 wc => ∃ (kq : Nat) (k0 : Int) (e1 : Int) (e2 : Int) (e3 : Int) (e4 : Int) (e5 : ByteArray), M4 = .int .i64 k0 ∧ q0e (Fd.j1 kq a8 k0 f8 f9 b7 g0 b2 e1 e2 e3 e4 e5 = some (r1, r2, r3, r4, r5, r6)) ∧ q0e (kq ≤ u7) ∧ q0e (Kd.V k49 49 wc w.heap.size (fun k_ => ((d6 k_ ∨ d7 k_) ∨ w.heap.size ≤ k_) ∧ k_ ≠ b5 ∧ k_ ≠ c6 ∧ k_ ≠ b6 ∧ k_ ≠ a5) (.slice (some c7) b7.length g9) b7) ∧ q0e (Kd.V k51 51 wc w.heap.size (fun k_ => ((d6 k_ ∨ d7 k_) ∨ w.heap.size ≤ k_) ∧ k_ ≠ b5 ∧ k_ ≠ c6 ∧ k_ ≠ b6 ∧ k_ ≠ a5) (.slice (some f7) b2.length h0) b2) ∧ q0e (wc.heap[b5]? = some (.cells #[.string f8, .string f9, (.slice (some c7) b7.length g9), .int .i64 g0, (.slice (some f7) b2.length h0)] 27 (0, 0))) ∧ q0e (wc.heap[c6]? = some (.cells #[.string (⟨#[]⟩ : ByteArray), .string (⟨#[]⟩ : ByteArray), (.slice none 0 0), .int .i64 0, (.slice none 0 0)] 27 (0, 0))) ∧ q0e (wc.heap[b6]? = some (.cells #[.int .i64 ((q0a b2 a8).f0), .int .i64 ((q0a b2 a8).f1), .int .i64 ((q0a b2 a8).f2), .int .i64 ((q0a b2 a8).f3), .string ((q0a b2 a8).f4)] 51 (0, 0))) ∧ q0e (wc.heap[a5]? = some (.cells #[.int .i64 e1, .int .i64 e2, .int .i64 e3, .int .i64 e4, .string e5] 51 (0, 0))) ∧ q0e (Below w.heap.size w wc))
      case first =>
       have H := p6.out
       clear p6
       by_cases t0 : a1 = 2
       ·
        rw [if_pos t0] at H
        obtain ⟨k5, t1⟩ := qt t0
        clear t0
        (first | rw [k5] | (simp only [q1x, q2b]; rw [k5]) | skip)
        by_cases z8 : 0 ≤ a8
        ·
         rw [if_pos z8] at H
         have N3 := decide_eq_true z8
         clear z8
         by_cases z9 : a8 < (b7.length : Int)
         ·
          rw [if_pos z9] at H
          have N4 := decide_eq_true z9
          clear z9
          replace H := Option.bind_eq_some_iff.mp H
          obtain ⟨⟨x5, x6, x7, x8, x9, y0⟩, r7, H⟩ := H
          try dsimp only at H
          have S3 := am r7
          clear r7
          have H' := am H
          clear H
          try go_wp2
          replace a0 := am (Kd.V_drew a0.out)
          replace d8 := am (Kd.V_drew d8.out)
          replace a9 := am (q0g a9.out)
          replace b4 := am (q0g b4.out)
          replace b3 := am (q0g b3.out)
          replace b8 := am (q0g b8.out)
          replace HB := am (q0b HB.out)
          have o7 : 0 ≤ (a8 : Int) := od
          have o8 : a8 < (b7.length : Int) := od
          have R6 : 0 < b7.length := by omega
          obtain ⟨s7, n7, n8, L5, j6, m8, m9, n0, m2, m0⟩ := q1r (Kd.V_reads' a0.out).2.2 a8 o7 o8
          obtain rfl : c7 = s7 := (by injection L5)
          obtain ⟨N6, q2, q0, o1⟩ := Kd.V_get a0.out z49 a8 o7 (by first | exact o8 | exact of_decide_eq_true (by first | (with_reducible assumption) | assumption) | (have e_ := (Kd.V_reads' a0.out).1; omega))
          obtain ⟨K3, K5, rfl, j8, j5⟩ := k49_openF q0
          have h9 := o1 0 _ rfl
          rw [Nat.add_zero] at h9
          replace h9 := Option.some.inj (h9.symm.trans j6)
          injection h9 with hva_ hvn_ hvc_
          rw [hva_] at j5
          rw [hvc_] at j8
          have i9 := am (show Kd.V (Kd.int .i64) 3 _ w.heap.size _ _ ((q0d b7 a8).f0) from Kd.V_mk j8 j5)
          clear hva_ hvn_ hvc_ j5 j8 o1 q2
          have g3 := am m0
          have o6 := am m2
          clear m0 m2
          replace o7 := eq_true o7
          replace o8 := eq_true o8
          refine q2j (n := 14) (S := fun w' => w'.cell? ⟨b5, 0, none⟩ = some (.string f8) ∧ w'.cell? ⟨b5, 1, none⟩ = some (.string f9) ∧ w'.cell? ⟨b5, 2, none⟩ = some (.slice (some c7) b7.length g9) ∧ w'.cell? ⟨b5, 3, none⟩ = some (.int .i64 g0) ∧ w'.cell? ⟨b5, 4, none⟩ = some (.slice (some f7) b2.length h0) ∧ w'.cell? ⟨b6, 0, none⟩ = some (.int .i64 ((q0a b2 a8).f0)) ∧ w'.cell? ⟨b6, 1, none⟩ = some (.int .i64 ((q0a b2 a8).f1)) ∧ w'.cell? ⟨b6, 2, none⟩ = some (.int .i64 ((q0a b2 a8).f2)) ∧ w'.cell? ⟨b6, 3, none⟩ = some (.int .i64 ((q0a b2 a8).f3)) ∧ w'.cell? ⟨b6, 4, none⟩ = some (.string ((q0a b2 a8).f4)) ∧ w'.cell? (c7.add ((a8).toNat * 4)) = some (.slice n7 ((q0d b7 a8).f0).length n8) ∧ w'.cell? ⟨(c7.add ((a8).toNat * 4)).block, (c7.add ((a8).toNat * 4)).off + 1, none⟩ = some (.int .i64 ((q0d b7 a8).f1)) ∧ w'.cell? ⟨(c7.add ((a8).toNat * 4)).block, (c7.add ((a8).toNat * 4)).off + 2, none⟩ = some (.int .i64 ((q0d b7 a8).f2)) ∧ w'.cell? ⟨(c7.add ((a8).toNat * 4)).block, (c7.add ((a8).toNat * 4)).off + 3, none⟩ = some (.int .i64 ((q0d b7 a8).f3))) (ds := []) (ba 14 0) (by kernel_rfl) rfl rfl ⟨bc a9.out, bc a9.out, bc a9.out, bc a9.out, bc a9.out, bc b3.out, bc b3.out, bc b3.out, bc b3.out, bc b3.out, j6, m8, m9, n0⟩ (fun b1 => ?_); refine q2m Fd.tab10 Fd.bits10 (fun g1 p7 => ?_)
          generalize wc.drew = X6 at a0 d8 a9 b4 b3 b8 HB i9 g3 j6 m8 m9 n0 b1 ⊢
          refine pu 0 53 (ba 14 1) g1 ?_
          refine pu 1 54 (ba 14 3) g1 ?_
          refine pu 3 56 (ba 14 11) g1 ?_
          refine pu 7 60 (ba 14 139) g1 ?_
          refine tk 2 55 (ba 14 143) g1 p7 b1 ?_
          refine pu 4 57 (ba 14 159) g1 ?_
          refine tk 5 58 (ba 14 191) g1 p7 b1 ?_
          refine tk 6 59 (ba 14 255) g1 p7 b1 ?_
          refine one_ (i := 8) (N := some 61) (ba 14 511) rfl rfl (q3i g1.out (by kernel_rfl)) (by decide) (fun K hK => ?_)
          refine q1v Try.func60 (by kernel_rfl) rfl #[.agg #[.slice n7 ((q0d b7 a8).f0).length n8, .int .i64 ((q0d b7 a8).f1), .int .i64 ((q0d b7 a8).f2), .int .i64 ((q0d b7 a8).f3)], .agg #[.int .i64 ((q0a b2 a8).f0), .int .i64 ((q0a b2 a8).f1), .int .i64 ((q0a b2 a8).f2), .int .i64 ((q0a b2 a8).f3), .string ((q0a b2 a8).f4)], .int .i64 a2] (by rfl) rfl rfl (by (try simp only [List.map_toArray, List.map_cons, List.map_nil]); first | done | rfl | (simp only [List.length_drop, List.length_take]; rfl)) ?_
          with_reducible refine (F5.calls u7 _ _ ((q0d b7 a8).f0) ((q0d b7 a8).f1) ((q0d b7 a8).f2) ((q0d b7 a8).f3) ((q0a b2 a8).f0) ((q0a b2 a8).f1) ((q0a b2 a8).f2) ((q0a b2 a8).f3) ((q0a b2 a8).f4) a2 x5 x6 x7 x8 x9 y0 _ ?side1 ?side2 S3.out).mono ?_
          (case side1 => repeat (first | exact (by repeat (first | (with_reducible exact g3.out) | (with_reducible refine Kd.C_alloc ?_ _) | (with_reducible refine Kd.C_drewN ?_ _) | (with_reducible refine Kd.C_drew ?_) | exact g3.out)) | (with_reducible refine Kd.C_alloc ?_ _) | (with_reducible refine Kd.C_drewN ?_ _) | (with_reducible refine Kd.C_drew ?_)))
          (case side2 => exact o6.out)
          rintro e z6 ⟨rfl, hb⟩
          have h2 := (hb.cell (World.block_lt_of_cell? _ _ (b1.2.2.2.2.2.2.2.2.2.2.1))).trans (b1.2.2.2.2.2.2.2.2.2.2.1)
          have h3 := (hb.cell (World.block_lt_of_cell? _ _ (b1.2.2.2.2.2.2.2.2.2.2.2.1))).trans (b1.2.2.2.2.2.2.2.2.2.2.2.1)
          have h4 := (hb.cell (World.block_lt_of_cell? _ _ (b1.2.2.2.2.2.2.2.2.2.2.2.2.1))).trans (b1.2.2.2.2.2.2.2.2.2.2.2.2.1)
          have h5 := (hb.cell (World.block_lt_of_cell? _ _ (b1.2.2.2.2.2.2.2.2.2.2.2.2.2))).trans (b1.2.2.2.2.2.2.2.2.2.2.2.2.2)
          refine ⟨_, rfl, ?_⟩
          replace a0 := vB a0 hb
          replace d8 := vB d8 hb
          replace i9 := vB i9 hb
          replace a9 := kB a9 hb
          replace b4 := kB b4 hb
          replace b3 := kB b3 hb
          replace b8 := kB b8 hb
          replace g3 := am (Kd.C_below (by repeat (first | (with_reducible exact g3.out) | (with_reducible refine Kd.C_alloc ?_ _) | (with_reducible refine Kd.C_drewN ?_ _) | (with_reducible refine Kd.C_drew ?_) | exact g3.out)) hb)
          replace HB := bS HB hb
          (try clear hb)
          (try clear hb2)
          (try clear hk)
          (try clear hi)
          refine hK.out _ _ ⟨bc a9.out, bc a9.out, bc a9.out, bc a9.out, bc a9.out, bc b3.out, bc b3.out, bc b3.out, bc b3.out, bc b3.out, h2, h3, h4, h5⟩ (fun b1 => ?_)
          clear hK K
          refine nh ?_
          refine pu 9 52 (ba 14 1023) g1 ?_
          refine pu 10 62 (ba 14 2047) g1 ?_
          refine pu 11 63 (ba 14 4095) g1 ?_
          refine one_ (i := 12) (N := none) (ba 14 8191) rfl rfl (q3i g1.out (by kernel_rfl)) (by decide) (fun K hK => ?_)
          have T3 : z6.cell? ⟨a5, 0, none⟩ = some (.int .i64 e6) := bc b8.out
          have P2 := z1 b8.out
          have H7 := a6.out
          have H8 := d2.out
          have H9 := a7.out
          have C7 := d3.out
          have C8 := d1.out
          have C9 := d4.out
          have T4 : z6.cell? ⟨a5, 1, none⟩ = some (.int .i64 e7) := bc b8.out
          have P3 := q0k b8.out 1
          have I0 := a6.out
          have I1 := d2.out
          have I2 := a7.out
          have D0 := d3.out
          have D1 := d1.out
          have D2 := d4.out
          have T5 : z6.cell? ⟨a5, 2, none⟩ = some (.int .i64 e8) := bc b8.out
          have P4 := q0k b8.out 2
          have I3 := a6.out
          have I4 := d2.out
          have I5 := a7.out
          have D3 := d3.out
          have D4 := d1.out
          have D5 := d4.out
          have T6 : z6.cell? ⟨a5, 3, none⟩ = some (.int .i64 e9) := bc b8.out
          have P5 := q0k b8.out 3
          have I6 := a6.out
          have I7 := d2.out
          have I8 := a7.out
          have D6 := d3.out
          have D7 := d1.out
          have D8 := d4.out
          have T7 : z6.cell? ⟨a5, 4, none⟩ = some (.string f5) := bc b8.out
          have P6 := q0k b8.out 4
          have I9 := a6.out
          have K0 := d2.out
          have K1 := a7.out
          have D9 := d3.out
          have E0 := d1.out
          have E1 := d4.out
          refine skip_ (w1 := ?_) (by rfl) rfl ?_ ?_
          rotate_left
          ·
           go_simp
           rfl
          refine hK.out _ _ ⟨((cell_far (p := ⟨a5, _, none⟩) a6.out _).trans (((cell_far (p := ⟨a5, _, none⟩) a6.out _).trans (((cell_far (p := ⟨a5, _, none⟩) a6.out _).trans (((cell_far (p := ⟨a5, _, none⟩) a6.out _).trans (((cell_far (p := ⟨a5, _, none⟩) a6.out _).trans (b1.1)))))))))), ((cell_far (p := ⟨a5, _, none⟩) a6.out _).trans (((cell_far (p := ⟨a5, _, none⟩) a6.out _).trans (((cell_far (p := ⟨a5, _, none⟩) a6.out _).trans (((cell_far (p := ⟨a5, _, none⟩) a6.out _).trans (((cell_far (p := ⟨a5, _, none⟩) a6.out _).trans (b1.2.1)))))))))), ((cell_far (p := ⟨a5, _, none⟩) a6.out _).trans (((cell_far (p := ⟨a5, _, none⟩) a6.out _).trans (((cell_far (p := ⟨a5, _, none⟩) a6.out _).trans (((cell_far (p := ⟨a5, _, none⟩) a6.out _).trans (((cell_far (p := ⟨a5, _, none⟩) a6.out _).trans (b1.2.2.1)))))))))), ((cell_far (p := ⟨a5, _, none⟩) a6.out _).trans (((cell_far (p := ⟨a5, _, none⟩) a6.out _).trans (((cell_far (p := ⟨a5, _, none⟩) a6.out _).trans (((cell_far (p := ⟨a5, _, none⟩) a6.out _).trans (((cell_far (p := ⟨a5, _, none⟩) a6.out _).trans (b1.2.2.2.1)))))))))), ((cell_far (p := ⟨a5, _, none⟩) a6.out _).trans (((cell_far (p := ⟨a5, _, none⟩) a6.out _).trans (((cell_far (p := ⟨a5, _, none⟩) a6.out _).trans (((cell_far (p := ⟨a5, _, none⟩) a6.out _).trans (((cell_far (p := ⟨a5, _, none⟩) a6.out _).trans (b1.2.2.2.2.1)))))))))), ((cell_far (p := ⟨a5, _, none⟩) a7.out _).trans (((cell_far (p := ⟨a5, _, none⟩) a7.out _).trans (((cell_far (p := ⟨a5, _, none⟩) a7.out _).trans (((cell_far (p := ⟨a5, _, none⟩) a7.out _).trans (((cell_far (p := ⟨a5, _, none⟩) a7.out _).trans (b1.2.2.2.2.2.1)))))))))), ((cell_far (p := ⟨a5, _, none⟩) a7.out _).trans (((cell_far (p := ⟨a5, _, none⟩) a7.out _).trans (((cell_far (p := ⟨a5, _, none⟩) a7.out _).trans (((cell_far (p := ⟨a5, _, none⟩) a7.out _).trans (((cell_far (p := ⟨a5, _, none⟩) a7.out _).trans (b1.2.2.2.2.2.2.1)))))))))), ((cell_far (p := ⟨a5, _, none⟩) a7.out _).trans (((cell_far (p := ⟨a5, _, none⟩) a7.out _).trans (((cell_far (p := ⟨a5, _, none⟩) a7.out _).trans (((cell_far (p := ⟨a5, _, none⟩) a7.out _).trans (((cell_far (p := ⟨a5, _, none⟩) a7.out _).trans (b1.2.2.2.2.2.2.2.1)))))))))), ((cell_far (p := ⟨a5, _, none⟩) a7.out _).trans (((cell_far (p := ⟨a5, _, none⟩) a7.out _).trans (((cell_far (p := ⟨a5, _, none⟩) a7.out _).trans (((cell_far (p := ⟨a5, _, none⟩) a7.out _).trans (((cell_far (p := ⟨a5, _, none⟩) a7.out _).trans (b1.2.2.2.2.2.2.2.2.1)))))))))), ((cell_far (p := ⟨a5, _, none⟩) a7.out _).trans (((cell_far (p := ⟨a5, _, none⟩) a7.out _).trans (((cell_far (p := ⟨a5, _, none⟩) a7.out _).trans (((cell_far (p := ⟨a5, _, none⟩) a7.out _).trans (((cell_far (p := ⟨a5, _, none⟩) a7.out _).trans (b1.2.2.2.2.2.2.2.2.2.1)))))))))), ((cell_far (p := ⟨a5, _, none⟩) (by first | exact vaw a0.out (fun _ hk => hk.2.2.2.2) | (rw [add_block]; exact vaw a0.out (fun _ hk => hk.2.2.2.2)) | (show (Addr.add _ _).block ≠ _; rw [add_block]; exact vaw a0.out (fun _ hk => hk.2.2.2.2)) | (dsimp only; exact vaw a0.out (fun _ hk => hk.2.2.2.2))) _).trans (((cell_far (p := ⟨a5, _, none⟩) (by first | exact vaw a0.out (fun _ hk => hk.2.2.2.2) | (rw [add_block]; exact vaw a0.out (fun _ hk => hk.2.2.2.2)) | (show (Addr.add _ _).block ≠ _; rw [add_block]; exact vaw a0.out (fun _ hk => hk.2.2.2.2)) | (dsimp only; exact vaw a0.out (fun _ hk => hk.2.2.2.2))) _).trans (((cell_far (p := ⟨a5, _, none⟩) (by first | exact vaw a0.out (fun _ hk => hk.2.2.2.2) | (rw [add_block]; exact vaw a0.out (fun _ hk => hk.2.2.2.2)) | (show (Addr.add _ _).block ≠ _; rw [add_block]; exact vaw a0.out (fun _ hk => hk.2.2.2.2)) | (dsimp only; exact vaw a0.out (fun _ hk => hk.2.2.2.2))) _).trans (((cell_far (p := ⟨a5, _, none⟩) (by first | exact vaw a0.out (fun _ hk => hk.2.2.2.2) | (rw [add_block]; exact vaw a0.out (fun _ hk => hk.2.2.2.2)) | (show (Addr.add _ _).block ≠ _; rw [add_block]; exact vaw a0.out (fun _ hk => hk.2.2.2.2)) | (dsimp only; exact vaw a0.out (fun _ hk => hk.2.2.2.2))) _).trans (((cell_far (p := ⟨a5, _, none⟩) (by first | exact vaw a0.out (fun _ hk => hk.2.2.2.2) | (rw [add_block]; exact vaw a0.out (fun _ hk => hk.2.2.2.2)) | (show (Addr.add _ _).block ≠ _; rw [add_block]; exact vaw a0.out (fun _ hk => hk.2.2.2.2)) | (dsimp only; exact vaw a0.out (fun _ hk => hk.2.2.2.2))) _).trans (b1.2.2.2.2.2.2.2.2.2.2.1)))))))))), ((cell_far (p := ⟨a5, _, none⟩) (by first | exact vaw a0.out (fun _ hk => hk.2.2.2.2) | (rw [add_block]; exact vaw a0.out (fun _ hk => hk.2.2.2.2)) | (show (Addr.add _ _).block ≠ _; rw [add_block]; exact vaw a0.out (fun _ hk => hk.2.2.2.2)) | (dsimp only; exact vaw a0.out (fun _ hk => hk.2.2.2.2))) _).trans (((cell_far (p := ⟨a5, _, none⟩) (by first | exact vaw a0.out (fun _ hk => hk.2.2.2.2) | (rw [add_block]; exact vaw a0.out (fun _ hk => hk.2.2.2.2)) | (show (Addr.add _ _).block ≠ _; rw [add_block]; exact vaw a0.out (fun _ hk => hk.2.2.2.2)) | (dsimp only; exact vaw a0.out (fun _ hk => hk.2.2.2.2))) _).trans (((cell_far (p := ⟨a5, _, none⟩) (by first | exact vaw a0.out (fun _ hk => hk.2.2.2.2) | (rw [add_block]; exact vaw a0.out (fun _ hk => hk.2.2.2.2)) | (show (Addr.add _ _).block ≠ _; rw [add_block]; exact vaw a0.out (fun _ hk => hk.2.2.2.2)) | (dsimp only; exact vaw a0.out (fun _ hk => hk.2.2.2.2))) _).trans (((cell_far (p := ⟨a5, _, none⟩) (by first | exact vaw a0.out (fun _ hk => hk.2.2.2.2) | (rw [add_block]; exact vaw a0.out (fun _ hk => hk.2.2.2.2)) | (show (Addr.add _ _).block ≠ _; rw [add_block]; exact vaw a0.out (fun _ hk => hk.2.2.2.2)) | (dsimp only; exact vaw a0.out (fun _ hk => hk.2.2.2.2))) _).trans (((cell_far (p := ⟨a5, _, none⟩) (by first | exact vaw a0.out (fun _ hk => hk.2.2.2.2) | (rw [add_block]; exact vaw a0.out (fun _ hk => hk.2.2.2.2)) | (show (Addr.add _ _).block ≠ _; rw [add_block]; exact vaw a0.out (fun _ hk => hk.2.2.2.2)) | (dsimp only; exact vaw a0.out (fun _ hk => hk.2.2.2.2))) _).trans (b1.2.2.2.2.2.2.2.2.2.2.2.1)))))))))), ((cell_far (p := ⟨a5, _, none⟩) (by first | exact vaw a0.out (fun _ hk => hk.2.2.2.2) | (rw [add_block]; exact vaw a0.out (fun _ hk => hk.2.2.2.2)) | (show (Addr.add _ _).block ≠ _; rw [add_block]; exact vaw a0.out (fun _ hk => hk.2.2.2.2)) | (dsimp only; exact vaw a0.out (fun _ hk => hk.2.2.2.2))) _).trans (((cell_far (p := ⟨a5, _, none⟩) (by first | exact vaw a0.out (fun _ hk => hk.2.2.2.2) | (rw [add_block]; exact vaw a0.out (fun _ hk => hk.2.2.2.2)) | (show (Addr.add _ _).block ≠ _; rw [add_block]; exact vaw a0.out (fun _ hk => hk.2.2.2.2)) | (dsimp only; exact vaw a0.out (fun _ hk => hk.2.2.2.2))) _).trans (((cell_far (p := ⟨a5, _, none⟩) (by first | exact vaw a0.out (fun _ hk => hk.2.2.2.2) | (rw [add_block]; exact vaw a0.out (fun _ hk => hk.2.2.2.2)) | (show (Addr.add _ _).block ≠ _; rw [add_block]; exact vaw a0.out (fun _ hk => hk.2.2.2.2)) | (dsimp only; exact vaw a0.out (fun _ hk => hk.2.2.2.2))) _).trans (((cell_far (p := ⟨a5, _, none⟩) (by first | exact vaw a0.out (fun _ hk => hk.2.2.2.2) | (rw [add_block]; exact vaw a0.out (fun _ hk => hk.2.2.2.2)) | (show (Addr.add _ _).block ≠ _; rw [add_block]; exact vaw a0.out (fun _ hk => hk.2.2.2.2)) | (dsimp only; exact vaw a0.out (fun _ hk => hk.2.2.2.2))) _).trans (((cell_far (p := ⟨a5, _, none⟩) (by first | exact vaw a0.out (fun _ hk => hk.2.2.2.2) | (rw [add_block]; exact vaw a0.out (fun _ hk => hk.2.2.2.2)) | (show (Addr.add _ _).block ≠ _; rw [add_block]; exact vaw a0.out (fun _ hk => hk.2.2.2.2)) | (dsimp only; exact vaw a0.out (fun _ hk => hk.2.2.2.2))) _).trans (b1.2.2.2.2.2.2.2.2.2.2.2.2.1)))))))))), ((cell_far (p := ⟨a5, _, none⟩) (by first | exact vaw a0.out (fun _ hk => hk.2.2.2.2) | (rw [add_block]; exact vaw a0.out (fun _ hk => hk.2.2.2.2)) | (show (Addr.add _ _).block ≠ _; rw [add_block]; exact vaw a0.out (fun _ hk => hk.2.2.2.2)) | (dsimp only; exact vaw a0.out (fun _ hk => hk.2.2.2.2))) _).trans (((cell_far (p := ⟨a5, _, none⟩) (by first | exact vaw a0.out (fun _ hk => hk.2.2.2.2) | (rw [add_block]; exact vaw a0.out (fun _ hk => hk.2.2.2.2)) | (show (Addr.add _ _).block ≠ _; rw [add_block]; exact vaw a0.out (fun _ hk => hk.2.2.2.2)) | (dsimp only; exact vaw a0.out (fun _ hk => hk.2.2.2.2))) _).trans (((cell_far (p := ⟨a5, _, none⟩) (by first | exact vaw a0.out (fun _ hk => hk.2.2.2.2) | (rw [add_block]; exact vaw a0.out (fun _ hk => hk.2.2.2.2)) | (show (Addr.add _ _).block ≠ _; rw [add_block]; exact vaw a0.out (fun _ hk => hk.2.2.2.2)) | (dsimp only; exact vaw a0.out (fun _ hk => hk.2.2.2.2))) _).trans (((cell_far (p := ⟨a5, _, none⟩) (by first | exact vaw a0.out (fun _ hk => hk.2.2.2.2) | (rw [add_block]; exact vaw a0.out (fun _ hk => hk.2.2.2.2)) | (show (Addr.add _ _).block ≠ _; rw [add_block]; exact vaw a0.out (fun _ hk => hk.2.2.2.2)) | (dsimp only; exact vaw a0.out (fun _ hk => hk.2.2.2.2))) _).trans (((cell_far (p := ⟨a5, _, none⟩) (by first | exact vaw a0.out (fun _ hk => hk.2.2.2.2) | (rw [add_block]; exact vaw a0.out (fun _ hk => hk.2.2.2.2)) | (show (Addr.add _ _).block ≠ _; rw [add_block]; exact vaw a0.out (fun _ hk => hk.2.2.2.2)) | (dsimp only; exact vaw a0.out (fun _ hk => hk.2.2.2.2))) _).trans (b1.2.2.2.2.2.2.2.2.2.2.2.2.2))))))))))⟩ (fun b1 => ?_)
          clear hK K
          refine pu 13 15 (ba 14 16383) g1 ?_
          refine q2c (q3l g1.out (by kernel_rfl)) ?_
          try go_wp2
          go_meet
          case rel => exact ⟨_, (y0), (x5), (x6), (x7), (x8), (x9), el, H', ⟨by have := s6.out; first | omega | exact Nat.le_refl _⟩, ⟨(pV a0.out)⟩, ⟨(pV d8.out)⟩, ⟨pk a9.out⟩, ⟨pk b4.out⟩, ⟨pk b3.out⟩, ⟨pP b8.out⟩, ⟨pB HB.out⟩⟩
         rw [if_neg z9] at H
         exact absurd H (by simp)
        rw [if_neg z8] at H
        exact absurd H (by simp)
       rw [if_neg t0] at H
       obtain ⟨k5, t1⟩ := qf t0
       (first | rw [k5] | (simp only [q1x, q2b]; rw [k5]) | skip)
       have H' := am H
       clear H
       go_wp2
       go_meet
       case rel => exact ⟨_, (j9), (e6), (e7), (e8), (e9), (f5), el, H', ⟨by have := s6.out; first | omega | exact Nat.le_refl _⟩, ⟨(pV a0.out)⟩, ⟨(pV d8.out)⟩, ⟨pk a9.out⟩, ⟨pk b4.out⟩, ⟨pk b3.out⟩, ⟨pk b8.out⟩, ⟨pB HB.out⟩⟩
      case rest =>
       clear p6
       try clear q7
       try clear p1
       try clear q8
       try clear p2
       try clear l5
       try clear l6
       try clear l7
       try clear l8
       try clear m3
       try clear m4
       try clear m5
       try clear m6
       try clear m7
       try clear h6
       try clear i0
       try clear i1
       try clear i2
       try clear o3
       try clear n4
       try clear o4
       try clear n5
       obtain ⟨kq, k0, e1, e2, e3, e4, e5, rfl, HA, S6, a0, d8, a9, b4, b3, b8, HB⟩ := hcut
       cases kq with
       | zero => exact absurd HA.out (by simp [Fd.j1])
       | succ u8 =>
        have H := HA.out
        clear HA
        simp only [Fd.j1] at H
        by_cases t2 : k0 = 0
        ·
         rw [if_pos t2] at H
         obtain ⟨t3, t4⟩ := qt t2
         clear t2
         replace H := Option.bind_eq_some_iff.mp H
         obtain ⟨⟨q3, q4, q5, q6, o5⟩, r8, H⟩ := H
         try dsimp only at H
         have S4 := am r8
         clear r8
         replace H := Option.bind_eq_some_iff.mp H
         obtain ⟨⟨y6, y7, y8, y9, z0⟩, r9, H⟩ := H
         try dsimp only at H
         have S5 := am r9
         clear r9
         simp only [Option.some.injEq, Prod.mk.injEq] at H
         obtain ⟨rfl, rfl, rfl, rfl, rfl, rfl⟩ := H
         have Q6 := nn g4
         have Q7 := nn n1
         have Q8 := nn a6
         have A8 := y5 a9
         have Q9 := nn d1
         have R0 := nn d4
         have A9 := y5 b8
         go_wp2_with (first | ((with_reducible refine gC 48 ?_); refine gL 71 Try.func48 #[.agg #[.string f8, .string f9, .slice (some c7) b7.length g9, .int .i64 g0, .slice (some f7) b2.length h0], .int .i64 a8, .agg #[.int .i64 e1, .int .i64 e2, .int .i64 e3, .int .i64 e4, .string e5]] ?_; (with_reducible refine (Fo.calls u8 f8 f9 (fun k_ => (((d6 k_ ∨ d7 k_) ∨ w.heap.size ≤ k_) ∧ (k_ ≠ b5 ∧ (k_ ≠ c6 ∧ (k_ ≠ b6 ∧ k_ ≠ a5))))) _ _ b7 g0 _ _ b2 a8 e1 e2 e3 e4 e5 q3 q4 q5 q6 o5 _ ?side1 ?side2 ?side3 S4.out).mono ?_); (case side1 => exact a0.out); (case side2 => exact pC ((Kd.V_reads' d8.out).2.2)); (case side3 => exact (Kd.V_reads' d8.out).2.1); rintro e X7 ⟨W1, M7, rfl, o2, n3, hb⟩; refine ⟨_, rfl, ?_⟩; replace a0 := am (Kd.V_elder' (pV a0.out) (Kd.R_base n3) hb); replace d8 := am (Kd.V_elder' (pV d8.out) (Kd.R_base n3) hb); have l4 := vL (ok' := fun k_ => ((d6 k_ ∨ d7 k_) ∨ w.heap.size ≤ k_) ∧ some k_ ≠ (M7 : Value).ownBlock ∧ k_ ≠ b5 ∧ k_ ≠ c6 ∧ k_ ≠ b6 ∧ k_ ≠ a5) HB o2 (fun k_ g2 => ⟨Or.elim g2.1 (fun b9 => b9.1) (fun n2 => (.inr (Nat.le_trans (q0m (pB HB.out)) n2))), g2.2, Or.elim g2.1 (fun b9 => b9.2.1) (fB a9), Or.elim g2.1 (fun b9 => b9.2.2.1) (fB b4), Or.elim g2.1 (fun b9 => b9.2.2.2.1) (fB b3), Or.elim g2.1 (fun b9 => b9.2.2.2.2) (fB b8)⟩); have f6 := am (Kd.R_lower (Kd.R_newB (Kd.R_newB (Kd.R_newM (M := fun k_ => (w.heap.size ≤ k_)) (Kd.R_mono (ok' := fun k_ => True) n3 (fun _ g2 => trivial)) (q0m (pB HB.out)) (fun k_ h_ => h_)) (g := b6) (o := .cells #[.int .i64 ((q0a b2 a8).f0), .int .i64 ((q0a b2 a8).f1), .int .i64 ((q0a b2 a8).f2), .int .i64 ((q0a b2 a8).f3), .string ((q0a b2 a8).f4)] 51 (0, 0)) (pk b3.out)) (g := a5) (o := .cells #[.int .i64 e1, .int .i64 e2, .int .i64 e3, .int .i64 e4, .string e5] 51 (0, 0)) (pk b8.out)) (q0m (pB HB.out))); replace a9 := kB a9 hb; replace b4 := kB b4 hb; replace b3 := kB b3 hb; replace b8 := kB b8 hb; replace HB := bS HB hb; (try clear hb); (try clear o2); (try clear n3); obtain ⟨K6, L0, M0⟩ := Kd.V_slice l4.out; subst M0; obtain ⟨p4, p8, M1⟩ := Kd.R_slice f6.out; subst M1) | ((with_reducible refine gC 35 ?_); refine gL 72 Try.func35 #[.agg #[.string q3, .string q4, .slice K6 q5.length L0, .int .i64 q6, .slice p4 o5.length p8]] ?_; (with_reducible refine (Fg.calls u8 q3 q4 (fun k_ => (((d6 k_ ∨ d7 k_) ∨ w.heap.size ≤ k_) ∧ (some k_ ≠ (.slice p4 o5.length p8 : Value).ownBlock ∧ (k_ ≠ b5 ∧ (k_ ≠ c6 ∧ (k_ ≠ b6 ∧ k_ ≠ a5)))))) _ _ q5 q6 (fun k_ => some k_ = (.slice p4 o5.length p8 : Value).ownBlock) _ _ o5 y6 y7 y8 y9 z0 _ ?side1 ?side2 S5.out).mono ?_); (case side1 => exact l4.out); (case side2 => exact Kd.R_V (Kd.R_tight rfl (Kd.R_types (Kd.R_types (f6.out) a9.out (by decide)) b4.out (by decide)))); rintro e X8 ⟨W2, W3, rfl, o2, n3, hb⟩; refine ⟨_, rfl, ?_⟩; replace a0 := vB a0 hb; replace d8 := vB d8 hb; replace l4 := vB l4 hb; have o9 := vL (ok' := fun k_ => ((d6 k_ ∨ d7 k_) ∨ w.heap.size ≤ k_) ∧ k_ ≠ b5 ∧ k_ ≠ c6 ∧ k_ ≠ b6 ∧ k_ ≠ a5) HB o2 (fun k_ g2 => ⟨Or.elim g2 (fun b9 => Or.elim b9 (fun b9 => b9.1) (fun b9 => (.inr (((Kd.R_types (Kd.R_types (f6.out) a9.out (by decide)) b4.out (by decide)).1 k_ b9.symm).1.1.1.1.1)))) (fun n2 => (.inr (Nat.le_trans (q0m (pB HB.out)) n2))), Or.elim g2 (fun b9 => Or.elim b9 (fun b9 => b9.2.2.1) (fun b9 => ((Kd.R_types (Kd.R_types (f6.out) a9.out (by decide)) b4.out (by decide)).1 k_ b9.symm).1.2)) (fB a9), Or.elim g2 (fun b9 => Or.elim b9 (fun b9 => b9.2.2.2.1) (fun b9 => ((Kd.R_types (Kd.R_types (f6.out) a9.out (by decide)) b4.out (by decide)).1 k_ b9.symm).2)) (fB b4), Or.elim g2 (fun b9 => Or.elim b9 (fun b9 => b9.2.2.2.2.1) (fun b9 => ((Kd.R_types (Kd.R_types (f6.out) a9.out (by decide)) b4.out (by decide)).1 k_ b9.symm).1.1.1.2)) (fB b3), Or.elim g2 (fun b9 => Or.elim b9 (fun b9 => b9.2.2.2.2.2) (fun b9 => ((Kd.R_types (Kd.R_types (f6.out) a9.out (by decide)) b4.out (by decide)).1 k_ b9.symm).1.1.2)) (fB b8)⟩); have p0 := vL (ok' := fun k_ => ((d6 k_ ∨ d7 k_) ∨ w.heap.size ≤ k_) ∧ k_ ≠ b5 ∧ k_ ≠ c6 ∧ k_ ≠ b6 ∧ k_ ≠ a5) HB n3 (fun k_ g2 => ⟨Or.elim g2 (fun b9 => Or.elim b9 (fun b9 => b9.1) (fun b9 => (.inr (((Kd.R_types (Kd.R_types (f6.out) a9.out (by decide)) b4.out (by decide)).1 k_ b9.symm).1.1.1.1.1)))) (fun n2 => (.inr (Nat.le_trans (q0m (pB HB.out)) n2))), Or.elim g2 (fun b9 => Or.elim b9 (fun b9 => b9.2.2.1) (fun b9 => ((Kd.R_types (Kd.R_types (f6.out) a9.out (by decide)) b4.out (by decide)).1 k_ b9.symm).1.2)) (fB a9), Or.elim g2 (fun b9 => Or.elim b9 (fun b9 => b9.2.2.2.1) (fun b9 => ((Kd.R_types (Kd.R_types (f6.out) a9.out (by decide)) b4.out (by decide)).1 k_ b9.symm).2)) (fB b4), Or.elim g2 (fun b9 => Or.elim b9 (fun b9 => b9.2.2.2.2.1) (fun b9 => ((Kd.R_types (Kd.R_types (f6.out) a9.out (by decide)) b4.out (by decide)).1 k_ b9.symm).1.1.1.2)) (fB b3), Or.elim g2 (fun b9 => Or.elim b9 (fun b9 => b9.2.2.2.2.2) (fun b9 => ((Kd.R_types (Kd.R_types (f6.out) a9.out (by decide)) b4.out (by decide)).1 k_ b9.symm).1.1.2)) (fB b8)⟩); replace f6 := am (Kd.R_below (pR f6.out) hb); replace a9 := kB a9 hb; replace b4 := kB b4 hb; replace b3 := kB b3 hb; replace b8 := kB b8 hb; replace HB := bS HB hb; (try clear hb); (try clear o2); (try clear n3); have R1 := nn i4; have B0 := y5 b4; obtain ⟨K7, L1, M2⟩ := Kd.V_slice o9.out; subst M2; obtain ⟨K8, L2, M3⟩ := Kd.V_slice p0.out; subst M3))
         refine bodyPost_ret (q0v rfl _ _ c6 27 #[.string y6, .string y7, .slice K7 y8.length L1, .int .i64 y9, .slice K8 z0.length L2] (0, 0) _ rfl (pP b4.out) Try.underlying27 rfl (by kernel_rfl)) rfl ?_
         exact ⟨_, _, by first | rfl | (simp [q1f, q1e] <;> rfl) | (simp [*, q1f, q1e] <;> rfl), by exact Kd.V_mono (pV o9.out) (fun _ hk => hk.1), by exact Kd.V_mono (pV p0.out) (fun _ hk => hk.1), pB HB.out⟩
        rw [if_neg t2] at H
        obtain ⟨t3, t4⟩ := qf t2
        simp only [Option.some.injEq, Prod.mk.injEq] at H
        obtain ⟨rfl, rfl, rfl, rfl, rfl, rfl⟩ := H
        have R2 := nn i3
        have R3 := nn i4
        have R4 := nn d2
        have B1 := y5 b4
        go_wp2
        refine bodyPost_ret (q0v rfl _ _ c6 27 #[.string (⟨#[]⟩ : ByteArray), .string (⟨#[]⟩ : ByteArray), .slice none 0 0, .int .i64 0, .slice none 0 0] (0, 0) _ rfl (pP b4.out) Try.underlying27 rfl (by kernel_rfl)) rfl ?_
        exact ⟨_, _, by first | rfl | (simp [q1f, q1e] <;> rfl) | (simp [*, q1f, q1e] <;> rfl), Kd.V_nil _ _ _ _ _, Kd.V_nil _ _ _ _ _, pB HB.out⟩
   rw [if_neg q8] at H
   exact absurd H (by simp)
  rw [if_neg q7] at H
  exact absurd H (by simp)
 rw [if_neg z7] at H
 exact absurd H (by simp)
def F8.f (k : Nat) (b0 : ByteArray) (b1 : ByteArray) (b3 : List (S49)) (b2 : Int) (b4 : List (S51)) (a1 : Int) (a2 : Int) (a3 : ByteArray) : Option (Bool) := (Gi.f k b0 b1 b3 b2 b4).bind fun a0 => ((Gn.f k a0.1 a0.2.1 a0.2.2.1 a0.2.2.2.1 a0.2.2.2.2 a1 a2).bind fun a4 => ((Gp.f k a0.1 a0.2.1 a0.2.2.1 a0.2.2.2.1 a0.2.2.2.2 a1 a2 a3).bind fun a5 => ((Gq.f k a0.1 a0.2.1 a0.2.2.1 a0.2.2.2.1 a0.2.2.2.2 a1 a2).bind fun a6 => ((Fa.f k a0.1 a0.2.1 a0.2.2.1 a0.2.2.2.1 a0.2.2.2.2).bind fun b5 => (if b5 = true then ((Fd.f k a0.1 a0.2.1 a0.2.2.1 a0.2.2.2.1 a0.2.2.2.2 0 a1 a2 a3).bind fun a7 => ((Fd.f k a0.1 a0.2.1 a0.2.2.1 a0.2.2.2.1 a0.2.2.2.2 1 a1 a2 a3).bind fun a8 => ((Fd.f k a0.1 a0.2.1 a0.2.2.1 a0.2.2.2.1 a0.2.2.2.2 2 a1 a2 a3).bind fun a9 => ((F9.f k).bind fun c6 => (if c6 = true then (if a4.2.2.2.2.2 = a7.2.2.2.2.2 then ((Ft.f k a4.1 a4.2.1 a4.2.2.1 a4.2.2.2.1 a4.2.2.2.2.1 a7.1 a7.2.1 a7.2.2.1 a7.2.2.2.1 a7.2.2.2.2.1).bind fun c7 => (if c7 = true then (if a5.2.2.2.2.2 = a8.2.2.2.2.2 then ((Ft.f k a5.1 a5.2.1 a5.2.2.1 a5.2.2.2.1 a5.2.2.2.2.1 a8.1 a8.2.1 a8.2.2.1 a8.2.2.2.1 a8.2.2.2.2.1).bind fun c8 => (if c8 = true then (if a6.2.2.2.2.2 = a9.2.2.2.2.2 then ((Ft.f k a6.1 a6.2.1 a6.2.2.1 a6.2.2.2.1 a6.2.2.2.2.1 a9.1 a9.2.1 a9.2.2.1 a9.2.2.2.1 a9.2.2.2.2.1).bind fun c9 => (some c9)) else (none)) else (none))) else (none)) else (none))) else (none)) else (none)))))) else ((F9.f k).bind fun b6 => (if b6 = true then (if a4.2.2.2.2.2 = 1 then (if a5.2.2.2.2.2 = 1 then (if a6.2.2.2.2.2 = 1 then ((Ft.f k a4.1 a4.2.1 a4.2.2.1 a4.2.2.2.1 a4.2.2.2.2.1 (⟨#[]⟩ : ByteArray) (⟨#[]⟩ : ByteArray) ([] : List (S49)) 0 ([] : List (S51))).bind fun b7 => (if b7 = true then ((Ft.f k a5.1 a5.2.1 a5.2.2.1 a5.2.2.2.1 a5.2.2.2.2.1 (⟨#[]⟩ : ByteArray) (⟨#[]⟩ : ByteArray) ([] : List (S49)) 0 ([] : List (S51))).bind fun b8 => (if b8 = true then ((Ft.f k a6.1 a6.2.1 a6.2.2.1 a6.2.2.2.1 a6.2.2.2.2.1 (⟨#[]⟩ : ByteArray) (⟨#[]⟩ : ByteArray) ([] : List (S49)) 0 ([] : List (S51))).bind fun b9 => (some b9)) else (none))) else (none))) else (none)) else (none)) else (none)) else (none))))))))
set_option maxHeartbeats 8000000 in
set_option maxRecDepth 100000 in
theorem F8.calls (k : Nat) (h8 : ByteArray) (h9 : ByteArray) (j4 : Option Addr) (m3 : Nat) (g6 : List (S49)) (i0 : Int) (j5 : Option Addr) (m4 : Nat) (g7 : List (S51)) (a1 : Int) (a2 : Int) (a3 : ByteArray) (r : Bool) (w : World) (r5 : Kd.C k49 w j4 g6.length g6) (r3 : g6.length ≤ m3) (r6 : Kd.C k51 w j5 g7.length g7) (r4 : g7.length ≤ m4) (h : F8.f k h8 h9 g6 i0 g7 a1 a2 a3 = some r) :
  Calls Try.prog 4 #[.agg #[.string h8, .string h9, .slice j4 g6.length m3, .int .i64 i0, .slice j5 g7.length m4], .int .i64 a1, .int .i64 a2, .string a3] w fun e w' => e = .returned (.bool r) ∧ Below w.heap.size w w' := by
 have S6 := Try.underlying27
 have q9 := am r5
 have q7 := am r3
 clear r5 r3
 have r0 := am r6
 have q8 := am r4
 clear r6 r4
 have HB := am (Below.refl w.heap.size w)
 unfold F8.f at h
 have H := h
 clear h
 replace H := Option.bind_eq_some_iff.mp H
 obtain ⟨⟨d3, d4, c8, d5, c9⟩, O2, H⟩ := H
 try dsimp only at H
 have A5 := am O2
 clear O2
 replace H := Option.bind_eq_some_iff.mp H
 obtain ⟨⟨g3, g4, e3, g5, e4, p1⟩, O3, H⟩ := H
 try dsimp only at H
 have A6 := am O3
 clear O3
 replace H := Option.bind_eq_some_iff.mp H
 obtain ⟨⟨h3, h4, h5, h6, h7, p2⟩, O4, H⟩ := H
 try dsimp only at H
 have A7 := am O4
 clear O4
 replace H := Option.bind_eq_some_iff.mp H
 obtain ⟨⟨i4, i5, i6, i7, i8, p3⟩, O5, H⟩ := H
 try dsimp only at H
 have A8 := am O5
 clear O5
 replace H := Option.bind_eq_some_iff.mp H
 obtain ⟨M2, O6, H⟩ := H
 try dsimp only at H
 have A9 := am O6
 clear O6
 by_cases C6 : M2 = true
 ·
  subst C6
  rw [if_pos rfl] at H
  try dsimp only at H
  replace H := Option.bind_eq_some_iff.mp H
  obtain ⟨⟨n6, n7, n8, n9, o0, C3⟩, v5, H⟩ := H
  try dsimp only at H
  have R8 := am v5
  clear v5
  replace H := Option.bind_eq_some_iff.mp H
  obtain ⟨⟨p4, p5, p6, p7, p8, C4⟩, v6, H⟩ := H
  try dsimp only at H
  have R9 := am v6
  clear v6
  replace H := Option.bind_eq_some_iff.mp H
  obtain ⟨⟨s8, s9, t0, t1, t2, C5⟩, v7, H⟩ := H
  try dsimp only at H
  have S0 := am v7
  clear v7
  replace H := Option.bind_eq_some_iff.mp H
  obtain ⟨M7, v8, H⟩ := H
  try dsimp only at H
  have S1 := am v8
  clear v8
  by_cases C7 : M7 = true
  ·
   subst C7
   rw [if_pos rfl] at H
   try dsimp only at H
   by_cases C8 : p1 = C3
   ·
    rw [if_pos C8] at H
    obtain ⟨P1, P2⟩ := qt C8
    clear C8
    replace H := Option.bind_eq_some_iff.mp H
    obtain ⟨M8, v9, H⟩ := H
    try dsimp only at H
    have S3 := am v9
    clear v9
    by_cases C9 : M8 = true
    ·
     subst C9
     rw [if_pos rfl] at H
     try dsimp only at H
     by_cases D0 : p2 = C4
     ·
      rw [if_pos D0] at H
      obtain ⟨P3, P4⟩ := qt D0
      clear D0
      replace H := Option.bind_eq_some_iff.mp H
      obtain ⟨M9, w2, H⟩ := H
      try dsimp only at H
      have S4 := am w2
      clear w2
      by_cases D1 : M9 = true
      ·
       subst D1
       rw [if_pos rfl] at H
       try dsimp only at H
       by_cases D2 : p3 = C5
       ·
        rw [if_pos D2] at H
        obtain ⟨P5, P6⟩ := qt D2
        clear D2
        replace H := Option.bind_eq_some_iff.mp H
        obtain ⟨N0, w3, H⟩ := H
        try dsimp only at H
        have S5 := am w3
        clear w3
        obtain rfl := Option.some.inj H
        go_enter Try.func4, Try.ntmps4
        go_wp2_with (first | ((with_reducible refine gD 4 ?_); refine bz 4 #[.string h8, .string h9, .slice j4 g6.length m3, .int .i64 i0, .slice j5 g7.length m4] 27 HB ?_; clear HB; intro a5 hg X1 hb a0 f6 HB; clear hb hg; have D3 := y5 a0) | ((with_reducible refine gC 9 ?_); refine gL 23 Try.func9 #[.agg #[.string h8, .string h9, .slice j4 g6.length m3, .int .i64 i0, .slice j5 g7.length m4]] ?_; (with_reducible refine (Gi.calls k h8 h9 (fun k_ => k_ < w.heap.size) _ _ g6 i0 (fun k_ => k_ < w.heap.size) _ _ g7 d3 d4 c8 d5 c9 _ ?side1 ?side2 A5.out).mono ?_); (case side1 => exact Kd.V_mk q7.out (Kd.F_below (Kd.C_F k49_heap q9.out) (pB HB.out))); (case side2 => exact Kd.V_mk q8.out (Kd.F_below (Kd.C_F k51_heap r0.out) (pB HB.out))); rintro e W6 ⟨N1, N2, rfl, f0, f1, hb⟩; refine ⟨_, rfl, ?_⟩; have a7 := vL (ok' := fun k_ => k_ ≠ a5) HB f0 (fun k_ d2 => Or.elim d2 (fun a4 => Or.elim a4 (nw f6) (nw f6)) (fB a0)); have a8 := vL (ok' := fun k_ => k_ ≠ a5) HB f1 (fun k_ d2 => Or.elim d2 (fun a4 => Or.elim a4 (nw f6) (nw f6)) (fB a0)); replace a0 := kB a0 hb; replace HB := bS HB hb; (try clear hb); (try clear f0); (try clear f1); have D4 := y5 a0; obtain ⟨f2, f4, I8⟩ := Kd.V_slice a7.out; subst I8; obtain ⟨f3, f5, I9⟩ := Kd.V_slice a8.out; subst I9) | ((with_reducible refine q2l (t := 27) (p := 4) rfl ?_); refine q2a (t := 27) (p := 4) (v := ?vo_w30) (w1 := (((((W6.setCell ⟨a5, 0, none⟩ (.string d3)).setCell ⟨a5, 1, none⟩ (.string d4)).setCell ⟨a5, 2, none⟩ (.slice f2 c8.length f4)).setCell ⟨a5, 3, none⟩ (.int .i64 d5)).setCell ⟨a5, 4, none⟩ (.slice f3 c9.length f5))) ?hg ?ho ?hn ?hr ?_; (case ho => rfl); (case hg => rfl); (case hn => rfl); (case hr => first | (go_simp; done) | (go_simp; rfl)); intro H2 hw; have g8 : q0e (Kd.V k49 49 H2 w.heap.size (fun k_ => k_ ≠ a5) (.slice f2 c8.length f4) c8) := ⟨(by rw [hw]; exact (pV a7.out))⟩; have g9 : q0e (Kd.V k51 51 H2 w.heap.size (fun k_ => k_ ≠ a5) (.slice f3 c9.length f5) c9) := ⟨(by rw [hw]; exact (pV a8.out))⟩; have h0 : q0e (H2.heap[a5]? = some (.cells #[.string d3, .string d4, .slice f2 c8.length f4, .int .i64 d5, .slice f3 c9.length f5] 27 (0, 0))) := ⟨(by rw [hw]; exact (pP a0.out))⟩; have h2 : q0e (Below w.heap.size w H2) := ⟨(by rw [hw]; exact (pB HB.out))⟩; clear hw a7 a8 a0 HB; have a7 := g8; have a8 := g9; have a0 := h0; have HB := h2; clear g8 g9 h0 h2; have D5 := y5 a0) | ((with_reducible refine gC 19 ?_); refine gL 28 Try.func19 #[.agg #[.string d3, .string d4, .slice f2 c8.length f4, .int .i64 d5, .slice f3 c9.length f5], .int .i64 a1, .int .i64 a2] ?_; (with_reducible refine (Gn.calls k d3 d4 (fun k_ => k_ ≠ a5) _ _ c8 d5 (fun k_ => k_ ≠ a5) _ _ c9 a1 a2 g3 g4 e3 g5 e4 p1 _ ?side1 ?side2 A6.out).mono ?_); (case side1 => exact a7.out); (case side2 => exact a8.out); rintro e X2 ⟨N3, N4, rfl, f0, f1, hb⟩; refine ⟨_, rfl, ?_⟩; replace a7 := vB a7 hb; replace a8 := vB a8 hb; have b1 := vL (ok' := fun k_ => k_ ≠ a5) HB f0 (fun k_ d2 => Or.elim d2 (fun a4 => Or.elim a4 (fun a4 => a4) (fun a4 => a4)) (fB a0)); have b2 := vL (ok' := fun k_ => k_ ≠ a5) HB f1 (fun k_ d2 => Or.elim d2 (fun a4 => Or.elim a4 (fun a4 => a4) (fun a4 => a4)) (fB a0)); replace a0 := kB a0 hb; replace HB := bS HB hb; (try clear hb); (try clear f0); (try clear f1)) | ((with_reducible refine gD 9 ?_); refine bz 9 #[.string (⟨#[]⟩ : ByteArray), .string (⟨#[]⟩ : ByteArray), .slice none 0 0, .int .i64 0, .slice none 0 0] 27 HB ?_; clear HB; intro a9 hg W7 hb a6 w8 HB; replace a7 := vE a7 hg hb; replace a8 := vE a8 hg hb; replace b1 := vE b1 hg hb; replace b2 := vE b2 hg hb; have j8 := nL hg a0; have f7 := nG hg a0; replace a0 := kB a0 hb; clear hb hg; have P7 := nn f7; have D6 := y5 a6; obtain ⟨j6, m5, K0⟩ := Kd.V_slice b1.out; subst K0; obtain ⟨j7, m6, K1⟩ := Kd.V_slice b2.out; subst K1) | ((with_reducible refine q2l (t := 27) (p := 9) rfl ?_); refine q2a (t := 27) (p := 9) (v := ?vo_w38) (w1 := (((((W7.setCell ⟨a9, 0, none⟩ (.string g3)).setCell ⟨a9, 1, none⟩ (.string g4)).setCell ⟨a9, 2, none⟩ (.slice j6 e3.length m5)).setCell ⟨a9, 3, none⟩ (.int .i64 g5)).setCell ⟨a9, 4, none⟩ (.slice j7 e4.length m6))) ?hg ?ho ?hn ?hr ?_; (case ho => rfl); (case hg => rfl); (case hn => rfl); (case hr => first | (go_simp; done) | (go_simp; rfl)); intro t3 hw; have g8 : q0e (Kd.V k49 49 t3 w.heap.size (fun k_ => k_ ≠ a5 ∧ k_ ≠ a9) (.slice f2 c8.length f4) c8) := ⟨(by rw [hw]; exact (pV a7.out))⟩; have g9 : q0e (Kd.V k51 51 t3 w.heap.size (fun k_ => k_ ≠ a5 ∧ k_ ≠ a9) (.slice f3 c9.length f5) c9) := ⟨(by rw [hw]; exact (pV a8.out))⟩; have h0 : q0e (Kd.V k49 49 t3 w.heap.size (fun k_ => k_ ≠ a5 ∧ k_ ≠ a9) (.slice j6 e3.length m5) e3) := ⟨(by rw [hw]; exact (pV b1.out))⟩; have h2 : q0e (Kd.V k51 51 t3 w.heap.size (fun k_ => k_ ≠ a5 ∧ k_ ≠ a9) (.slice j7 e4.length m6) e4) := ⟨(by rw [hw]; exact (pV b2.out))⟩; have i1 : q0e (t3.heap[a5]? = some (.cells #[.string d3, .string d4, .slice f2 c8.length f4, .int .i64 d5, .slice f3 c9.length f5] 27 (0, 0))) := ⟨(by rw [hw]; exact (pk a0.out))⟩; have i2 : q0e (t3.heap[a9]? = some (.cells #[.string g3, .string g4, .slice j6 e3.length m5, .int .i64 g5, .slice j7 e4.length m6] 27 (0, 0))) := ⟨(by rw [hw]; exact (pP a6.out))⟩; have i3 : q0e (Below w.heap.size w t3) := ⟨(by rw [hw]; exact (pB HB.out))⟩; clear hw a7 a8 b1 b2 a0 a6 HB; have a7 := g8; have a8 := g9; have b1 := h0; have b2 := h2; have a0 := i1; have a6 := i2; have HB := i3; clear g8 g9 h0 h2 i1 i2 i3; have D7 := y5 a0) | ((with_reducible refine gC 20 ?_); refine gL 36 Try.func20 #[.agg #[.string d3, .string d4, .slice f2 c8.length f4, .int .i64 d5, .slice f3 c9.length f5], .int .i64 a1, .int .i64 a2, .string a3] ?_; (with_reducible refine (Gp.calls k d3 d4 (fun k_ => (k_ ≠ a5 ∧ k_ ≠ a9)) _ _ c8 d5 (fun k_ => (k_ ≠ a5 ∧ k_ ≠ a9)) _ _ c9 a1 a2 a3 h3 h4 h5 h6 h7 p2 _ ?side1 ?side2 A7.out).mono ?_); (case side1 => exact a7.out); (case side2 => exact a8.out); rintro e X3 ⟨N5, N6, rfl, f0, f1, hb⟩; refine ⟨_, rfl, ?_⟩; replace a7 := vB a7 hb; replace a8 := vB a8 hb; replace b1 := vB b1 hb; replace b2 := vB b2 hb; have b4 := vL (ok' := fun k_ => k_ ≠ a5 ∧ k_ ≠ a9) HB f0 (fun k_ d2 => ⟨Or.elim d2 (fun a4 => Or.elim a4 (fun a4 => a4.1) (fun a4 => a4.1)) (fB a0), Or.elim d2 (fun a4 => Or.elim a4 (fun a4 => a4.2) (fun a4 => a4.2)) (fB a6)⟩); have b5 := vL (ok' := fun k_ => k_ ≠ a5 ∧ k_ ≠ a9) HB f1 (fun k_ d2 => ⟨Or.elim d2 (fun a4 => Or.elim a4 (fun a4 => a4.1) (fun a4 => a4.1)) (fB a0), Or.elim d2 (fun a4 => Or.elim a4 (fun a4 => a4.2) (fun a4 => a4.2)) (fB a6)⟩); replace a0 := kB a0 hb; replace a6 := kB a6 hb; replace HB := bS HB hb; (try clear hb); (try clear f0); (try clear f1)) | ((with_reducible refine gD 11 ?_); refine bz 11 #[.string (⟨#[]⟩ : ByteArray), .string (⟨#[]⟩ : ByteArray), .slice none 0 0, .int .i64 0, .slice none 0 0] 27 HB ?_; clear HB; intro b3 hg W8 hb b0 w9 HB; replace a7 := vE a7 hg hb; replace a8 := vE a8 hg hb; replace b1 := vE b1 hg hb; replace b2 := vE b2 hg hb; replace b4 := vE b4 hg hb; replace b5 := vE b5 hg hb; have j9 := nL hg a0; have f8 := nG hg a0; replace a0 := kB a0 hb; have k1 := nL hg a6; have f9 := nG hg a6; replace a6 := kB a6 hb; clear hb hg; have P8 := nn f8; have P9 := nn f9; have D8 := y5 b0; obtain ⟨o1, o9, K2⟩ := Kd.V_slice b4.out; subst K2; obtain ⟨o2, p0, K3⟩ := Kd.V_slice b5.out; subst K3) | ((with_reducible refine q2l (t := 27) (p := 11) rfl ?_); refine q2a (t := 27) (p := 11) (v := ?vo_w47) (w1 := (((((W8.setCell ⟨b3, 0, none⟩ (.string h3)).setCell ⟨b3, 1, none⟩ (.string h4)).setCell ⟨b3, 2, none⟩ (.slice o1 h5.length o9)).setCell ⟨b3, 3, none⟩ (.int .i64 h6)).setCell ⟨b3, 4, none⟩ (.slice o2 h7.length p0))) ?hg ?ho ?hn ?hr ?_; (case ho => rfl); (case hg => rfl); (case hn => rfl); (case hr => first | (go_simp; done) | (go_simp; rfl)); intro H3 hw; have g8 := vW (ok' := fun k_ => k_ ≠ a5 ∧ k_ ≠ a9 ∧ k_ ≠ b3) hw a7; have g9 := vW (ok' := fun k_ => k_ ≠ a5 ∧ k_ ≠ a9 ∧ k_ ≠ b3) hw a8; have h0 := vW (ok' := fun k_ => k_ ≠ a5 ∧ k_ ≠ a9 ∧ k_ ≠ b3) hw b1; have h2 := vW (ok' := fun k_ => k_ ≠ a5 ∧ k_ ≠ a9 ∧ k_ ≠ b3) hw b2; have i1 := vW (ok' := fun k_ => k_ ≠ a5 ∧ k_ ≠ a9 ∧ k_ ≠ b3) hw b4; have i2 := vW (ok' := fun k_ => k_ ≠ a5 ∧ k_ ≠ a9 ∧ k_ ≠ b3) hw b5; have i3 : q0e (H3.heap[a5]? = some (.cells #[.string d3, .string d4, .slice f2 c8.length f4, .int .i64 d5, .slice f3 c9.length f5] 27 (0, 0))) := ⟨(by rw [hw]; exact (pk a0.out))⟩; have n3 : q0e (H3.heap[a9]? = some (.cells #[.string g3, .string g4, .slice j6 e3.length m5, .int .i64 g5, .slice j7 e4.length m6] 27 (0, 0))) := ⟨(by rw [hw]; exact (pk a6.out))⟩; have n4 : q0e (H3.heap[b3]? = some (.cells #[.string h3, .string h4, .slice o1 h5.length o9, .int .i64 h6, .slice o2 h7.length p0] 27 (0, 0))) := ⟨(by rw [hw]; exact (pP b0.out))⟩; have n5 : q0e (Below w.heap.size w H3) := ⟨(by rw [hw]; exact (pB HB.out))⟩; clear hw a7 a8 b1 b2 b4 b5 a0 a6 b0 HB; have a7 := g8; have a8 := g9; have b1 := h0; have b2 := h2; have b4 := i1; have b5 := i2; have a0 := i3; have a6 := n3; have b0 := n4; have HB := n5; clear g8 g9 h0 h2 i1 i2 i3 n3 n4 n5; have D9 := y5 a0) | ((with_reducible refine gC 21 ?_); refine gL 43 Try.func21 #[.agg #[.string d3, .string d4, .slice f2 c8.length f4, .int .i64 d5, .slice f3 c9.length f5], .int .i64 a1, .int .i64 a2] ?_; (with_reducible refine (Gq.calls k d3 d4 (fun k_ => (k_ ≠ a5 ∧ (k_ ≠ a9 ∧ k_ ≠ b3))) _ _ c8 d5 (fun k_ => (k_ ≠ a5 ∧ (k_ ≠ a9 ∧ k_ ≠ b3))) _ _ c9 a1 a2 i4 i5 i6 i7 i8 p3 _ ?side1 ?side2 A8.out).mono ?_); (case side1 => exact a7.out); (case side2 => exact a8.out); rintro e X4 ⟨N7, N8, rfl, f0, f1, hb⟩; refine ⟨_, rfl, ?_⟩; replace a7 := vB a7 hb; replace a8 := vB a8 hb; replace b1 := vB b1 hb; replace b2 := vB b2 hb; replace b4 := vB b4 hb; replace b5 := vB b5 hb; have b7 := vL (ok' := fun k_ => k_ ≠ a5 ∧ k_ ≠ a9 ∧ k_ ≠ b3) HB f0 (fun k_ d2 => ⟨Or.elim d2 (fun a4 => Or.elim a4 (fun a4 => a4.1) (fun a4 => a4.1)) (fB a0), Or.elim d2 (fun a4 => Or.elim a4 (fun a4 => a4.2.1) (fun a4 => a4.2.1)) (fB a6), Or.elim d2 (fun a4 => Or.elim a4 (fun a4 => a4.2.2) (fun a4 => a4.2.2)) (fB b0)⟩); have b8 := vL (ok' := fun k_ => k_ ≠ a5 ∧ k_ ≠ a9 ∧ k_ ≠ b3) HB f1 (fun k_ d2 => ⟨Or.elim d2 (fun a4 => Or.elim a4 (fun a4 => a4.1) (fun a4 => a4.1)) (fB a0), Or.elim d2 (fun a4 => Or.elim a4 (fun a4 => a4.2.1) (fun a4 => a4.2.1)) (fB a6), Or.elim d2 (fun a4 => Or.elim a4 (fun a4 => a4.2.2) (fun a4 => a4.2.2)) (fB b0)⟩); replace a0 := kB a0 hb; replace a6 := kB a6 hb; replace b0 := kB b0 hb; replace HB := bS HB hb; (try clear hb); (try clear f0); (try clear f1)) | ((with_reducible refine gD 13 ?_); refine bz 13 #[.string (⟨#[]⟩ : ByteArray), .string (⟨#[]⟩ : ByteArray), .slice none 0 0, .int .i64 0, .slice none 0 0] 27 HB ?_; clear HB; intro b9 hg X5 hb b6 x0 HB; replace a7 := vE a7 hg hb; replace a8 := vE a8 hg hb; replace b1 := vE b1 hg hb; replace b2 := vE b2 hg hb; replace b4 := vE b4 hg hb; replace b5 := vE b5 hg hb; replace b7 := vE b7 hg hb; replace b8 := vE b8 hg hb; have k0 := nL hg a0; have g0 := nG hg a0; replace a0 := kB a0 hb; have k2 := nL hg a6; have g1 := nG hg a6; replace a6 := kB a6 hb; have k3 := nL hg b0; have g2 := nG hg b0; replace b0 := kB b0 hb; clear hb hg; have Q0 := nn g0; have Q1 := nn g1; have Q2 := nn g2; have E0 := y5 b6; obtain ⟨s0, s4, K4⟩ := Kd.V_slice b7.out; subst K4; obtain ⟨s1, s5, K5⟩ := Kd.V_slice b8.out; subst K5; have E1 := y5 a0) | ((with_reducible refine gC 15 ?_); refine gL 47 Try.func15 #[.agg #[.string d3, .string d4, .slice f2 c8.length f4, .int .i64 d5, .slice f3 c9.length f5]] ?_; (with_reducible refine (Fa.calls k d3 d4 _ _ c8 d5 _ _ c9 true _ ?side1 ?side2 ?side3 ?side4 A9.out).mono ?_); (case side1 => exact (Kd.V_reads' (pV a7.out)).2.2); (case side2 => exact (Kd.V_reads' a7.out).2.1); (case side3 => exact (Kd.V_reads' (pV a8.out)).2.2); (case side4 => exact (Kd.V_reads' a8.out).2.1); rintro e X6 ⟨rfl, hb⟩; refine ⟨_, rfl, ?_⟩; replace a7 := vB a7 hb; replace a8 := vB a8 hb; replace b1 := vB b1 hb; replace b2 := vB b2 hb; replace b4 := vB b4 hb; replace b5 := vB b5 hb; replace b7 := vB b7 hb; replace b8 := vB b8 hb; replace a0 := kB a0 hb; replace a6 := kB a6 hb; replace b0 := kB b0 hb; replace b6 := am (q0c (g := b9) (o := .cells #[.string i4, .string i5, .slice s0 i6.length s4, .int .i64 i7, .slice s1 i8.length s5] 27 (0, 0)) (pP b6.out) hb); replace HB := bS HB hb; (try clear hb); have E2 := y5 a0) | ((with_reducible refine gC 22 ?_); refine gL 83 Try.func22 #[.agg #[.string d3, .string d4, .slice f2 c8.length f4, .int .i64 d5, .slice f3 c9.length f5], .int .i64 0, .int .i64 a1, .int .i64 a2, .string a3] ?_; (with_reducible refine (Fd.calls k d3 d4 (fun k_ => ((k_ ≠ a5 ∧ (k_ ≠ a9 ∧ k_ ≠ b3)) ∧ k_ ≠ b9)) _ _ c8 d5 (fun k_ => ((k_ ≠ a5 ∧ (k_ ≠ a9 ∧ k_ ≠ b3)) ∧ k_ ≠ b9)) _ _ c9 0 a1 a2 a3 n6 n7 n8 n9 o0 C3 _ ?side1 ?side2 R8.out).mono ?_); (case side1 => exact a7.out); (case side2 => exact a8.out); rintro e X7 ⟨S7, S8, rfl, f0, f1, hb⟩; refine ⟨_, rfl, ?_⟩; replace a7 := vB a7 hb; replace a8 := vB a8 hb; replace b1 := vB b1 hb; replace b2 := vB b2 hb; replace b4 := vB b4 hb; replace b5 := vB b5 hb; replace b7 := vB b7 hb; replace b8 := vB b8 hb; have d0 := vL (ok' := fun k_ => k_ ≠ a5 ∧ k_ ≠ a9 ∧ k_ ≠ b3 ∧ k_ ≠ b9) HB f0 (fun k_ d2 => ⟨Or.elim d2 (fun a4 => Or.elim a4 (fun a4 => a4.1.1) (fun a4 => a4.1.1)) (fB a0), Or.elim d2 (fun a4 => Or.elim a4 (fun a4 => a4.1.2.1) (fun a4 => a4.1.2.1)) (fB a6), Or.elim d2 (fun a4 => Or.elim a4 (fun a4 => a4.1.2.2) (fun a4 => a4.1.2.2)) (fB b0), Or.elim d2 (fun a4 => Or.elim a4 (fun a4 => a4.2) (fun a4 => a4.2)) (fB b6)⟩); have d1 := vL (ok' := fun k_ => k_ ≠ a5 ∧ k_ ≠ a9 ∧ k_ ≠ b3 ∧ k_ ≠ b9) HB f1 (fun k_ d2 => ⟨Or.elim d2 (fun a4 => Or.elim a4 (fun a4 => a4.1.1) (fun a4 => a4.1.1)) (fB a0), Or.elim d2 (fun a4 => Or.elim a4 (fun a4 => a4.1.2.1) (fun a4 => a4.1.2.1)) (fB a6), Or.elim d2 (fun a4 => Or.elim a4 (fun a4 => a4.1.2.2) (fun a4 => a4.1.2.2)) (fB b0), Or.elim d2 (fun a4 => Or.elim a4 (fun a4 => a4.2) (fun a4 => a4.2)) (fB b6)⟩); replace a0 := kB a0 hb; replace a6 := kB a6 hb; replace b0 := kB b0 hb; replace b6 := kB b6 hb; replace HB := bS HB hb; (try clear hb); (try clear f0); (try clear f1)) | ((with_reducible refine gD 16 ?_); refine bz 16 #[.string (⟨#[]⟩ : ByteArray), .string (⟨#[]⟩ : ByteArray), .slice none 0 0, .int .i64 0, .slice none 0 0] 27 HB ?_; clear HB; intro c6 hg W9 hb c7 O8 HB; replace a7 := vE a7 hg hb; replace a8 := vE a8 hg hb; replace b1 := vE b1 hg hb; replace b2 := vE b2 hg hb; replace b4 := vE b4 hg hb; replace b5 := vE b5 hg hb; replace b7 := vE b7 hg hb; replace b8 := vE b8 hg hb; replace d0 := vE d0 hg hb; replace d1 := vE d1 hg hb; have t6 := nL hg a0; have k8 := nG hg a0; replace a0 := kB a0 hb; have u0 := nL hg a6; have k9 := nG hg a6; replace a6 := kB a6 hb; have u4 := nL hg b0; have l0 := nG hg b0; replace b0 := kB b0 hb; have u8 := nL hg b6; have l1 := nG hg b6; replace b6 := kB b6 hb; clear hb hg; have Q3 := nn k8; have Q4 := nn k9; have Q5 := nn l0; have Q6 := nn l1; have E3 := y5 c7; obtain ⟨s2, s6, K6⟩ := Kd.V_slice d0.out; subst K6; obtain ⟨s3, s7, K7⟩ := Kd.V_slice d1.out; subst K7) | ((with_reducible refine q2l (t := 27) (p := 16) rfl ?_); refine q2a (t := 27) (p := 16) (v := ?vo_w69) (w1 := (((((W9.setCell ⟨c6, 0, none⟩ (.string n6)).setCell ⟨c6, 1, none⟩ (.string n7)).setCell ⟨c6, 2, none⟩ (.slice s2 n8.length s6)).setCell ⟨c6, 3, none⟩ (.int .i64 n9)).setCell ⟨c6, 4, none⟩ (.slice s3 o0.length s7))) ?hg ?ho ?hn ?hr ?_; (case ho => rfl); (case hg => rfl); (case hn => rfl); (case hr => first | (go_simp; done) | (go_simp; rfl)); intro v4 hw; have g8 := vW (ok' := fun k_ => k_ ≠ a5 ∧ k_ ≠ a9 ∧ k_ ≠ b3 ∧ k_ ≠ b9 ∧ k_ ≠ c6) hw a7; have g9 := vW (ok' := fun k_ => k_ ≠ a5 ∧ k_ ≠ a9 ∧ k_ ≠ b3 ∧ k_ ≠ b9 ∧ k_ ≠ c6) hw a8; have h0 := vW (ok' := fun k_ => k_ ≠ a5 ∧ k_ ≠ a9 ∧ k_ ≠ b3 ∧ k_ ≠ b9 ∧ k_ ≠ c6) hw b1; have h2 := vW (ok' := fun k_ => k_ ≠ a5 ∧ k_ ≠ a9 ∧ k_ ≠ b3 ∧ k_ ≠ b9 ∧ k_ ≠ c6) hw b2; have i1 := vW (ok' := fun k_ => k_ ≠ a5 ∧ k_ ≠ a9 ∧ k_ ≠ b3 ∧ k_ ≠ b9 ∧ k_ ≠ c6) hw b4; have i2 := vW (ok' := fun k_ => k_ ≠ a5 ∧ k_ ≠ a9 ∧ k_ ≠ b3 ∧ k_ ≠ b9 ∧ k_ ≠ c6) hw b5; have i3 := vW (ok' := fun k_ => k_ ≠ a5 ∧ k_ ≠ a9 ∧ k_ ≠ b3 ∧ k_ ≠ b9 ∧ k_ ≠ c6) hw b7; have n3 := vW (ok' := fun k_ => k_ ≠ a5 ∧ k_ ≠ a9 ∧ k_ ≠ b3 ∧ k_ ≠ b9 ∧ k_ ≠ c6) hw b8; have n4 := vW (ok' := fun k_ => k_ ≠ a5 ∧ k_ ≠ a9 ∧ k_ ≠ b3 ∧ k_ ≠ b9 ∧ k_ ≠ c6) hw d0; have n5 := vW (ok' := fun k_ => k_ ≠ a5 ∧ k_ ≠ a9 ∧ k_ ≠ b3 ∧ k_ ≠ b9 ∧ k_ ≠ c6) hw d1; have m7 : q0e (v4.heap[a5]? = some (.cells #[.string d3, .string d4, .slice f2 c8.length f4, .int .i64 d5, .slice f3 c9.length f5] 27 (0, 0))) := ⟨(by rw [hw]; exact (pk a0.out))⟩; have m8 : q0e (v4.heap[a9]? = some (.cells #[.string g3, .string g4, .slice j6 e3.length m5, .int .i64 g5, .slice j7 e4.length m6] 27 (0, 0))) := ⟨(by rw [hw]; exact (pk a6.out))⟩; have m9 : q0e (v4.heap[b3]? = some (.cells #[.string h3, .string h4, .slice o1 h5.length o9, .int .i64 h6, .slice o2 h7.length p0] 27 (0, 0))) := ⟨(by rw [hw]; exact (pk b0.out))⟩; have n0 : q0e (v4.heap[b9]? = some (.cells #[.string i4, .string i5, .slice s0 i6.length s4, .int .i64 i7, .slice s1 i8.length s5] 27 (0, 0))) := ⟨(by rw [hw]; exact (pk b6.out))⟩; have n1 : q0e (v4.heap[c6]? = some (.cells #[.string n6, .string n7, .slice s2 n8.length s6, .int .i64 n9, .slice s3 o0.length s7] 27 (0, 0))) := ⟨(by rw [hw]; exact (pP c7.out))⟩; have n2 : q0e (Below w.heap.size w v4) := ⟨(by rw [hw]; exact (pB HB.out))⟩; clear hw a7 a8 b1 b2 b4 b5 b7 b8 d0 d1 a0 a6 b0 b6 c7 HB; have a7 := g8; have a8 := g9; have b1 := h0; have b2 := h2; have b4 := i1; have b5 := i2; have b7 := i3; have b8 := n3; have d0 := n4; have d1 := n5; have a0 := m7; have a6 := m8; have b0 := m9; have b6 := n0; have c7 := n1; have HB := n2; clear g8 g9 h0 h2 i1 i2 i3 n3 n4 n5 m7 m8 m9 n0 n1 n2; have E4 := y5 a0) | ((with_reducible refine gC 22 ?_); refine gL 91 Try.func22 #[.agg #[.string d3, .string d4, .slice f2 c8.length f4, .int .i64 d5, .slice f3 c9.length f5], .int .i64 1, .int .i64 a1, .int .i64 a2, .string a3] ?_; (with_reducible refine (Fd.calls k d3 d4 (fun k_ => (k_ ≠ a5 ∧ (k_ ≠ a9 ∧ (k_ ≠ b3 ∧ (k_ ≠ b9 ∧ k_ ≠ c6))))) _ _ c8 d5 (fun k_ => (k_ ≠ a5 ∧ (k_ ≠ a9 ∧ (k_ ≠ b3 ∧ (k_ ≠ b9 ∧ k_ ≠ c6))))) _ _ c9 1 a1 a2 a3 p4 p5 p6 p7 p8 C4 _ ?side1 ?side2 R9.out).mono ?_); (case side1 => exact a7.out); (case side2 => exact a8.out); rintro e X8 ⟨S9, T0, rfl, f0, f1, hb⟩; refine ⟨_, rfl, ?_⟩; replace a7 := vB a7 hb; replace a8 := vB a8 hb; replace b1 := vB b1 hb; replace b2 := vB b2 hb; replace b4 := vB b4 hb; replace b5 := vB b5 hb; replace b7 := vB b7 hb; replace b8 := vB b8 hb; replace d0 := vB d0 hb; replace d1 := vB d1 hb; have d8 := vL (ok' := fun k_ => k_ ≠ a5 ∧ k_ ≠ a9 ∧ k_ ≠ b3 ∧ k_ ≠ b9 ∧ k_ ≠ c6) HB f0 (fun k_ d2 => ⟨Or.elim d2 (fun a4 => Or.elim a4 (fun a4 => a4.1) (fun a4 => a4.1)) (fB a0), Or.elim d2 (fun a4 => Or.elim a4 (fun a4 => a4.2.1) (fun a4 => a4.2.1)) (fB a6), Or.elim d2 (fun a4 => Or.elim a4 (fun a4 => a4.2.2.1) (fun a4 => a4.2.2.1)) (fB b0), Or.elim d2 (fun a4 => Or.elim a4 (fun a4 => a4.2.2.2.1) (fun a4 => a4.2.2.2.1)) (fB b6), Or.elim d2 (fun a4 => Or.elim a4 (fun a4 => a4.2.2.2.2) (fun a4 => a4.2.2.2.2)) (fB c7)⟩); have d9 := vL (ok' := fun k_ => k_ ≠ a5 ∧ k_ ≠ a9 ∧ k_ ≠ b3 ∧ k_ ≠ b9 ∧ k_ ≠ c6) HB f1 (fun k_ d2 => ⟨Or.elim d2 (fun a4 => Or.elim a4 (fun a4 => a4.1) (fun a4 => a4.1)) (fB a0), Or.elim d2 (fun a4 => Or.elim a4 (fun a4 => a4.2.1) (fun a4 => a4.2.1)) (fB a6), Or.elim d2 (fun a4 => Or.elim a4 (fun a4 => a4.2.2.1) (fun a4 => a4.2.2.1)) (fB b0), Or.elim d2 (fun a4 => Or.elim a4 (fun a4 => a4.2.2.2.1) (fun a4 => a4.2.2.2.1)) (fB b6), Or.elim d2 (fun a4 => Or.elim a4 (fun a4 => a4.2.2.2.2) (fun a4 => a4.2.2.2.2)) (fB c7)⟩); replace a0 := kB a0 hb; replace a6 := kB a6 hb; replace b0 := kB b0 hb; replace b6 := kB b6 hb; replace c7 := kB c7 hb; replace HB := bS HB hb; (try clear hb); (try clear f0); (try clear f1)) | ((with_reducible refine gD 18 ?_); refine bz 18 #[.string (⟨#[]⟩ : ByteArray), .string (⟨#[]⟩ : ByteArray), .slice none 0 0, .int .i64 0, .slice none 0 0] 27 HB ?_; clear HB; intro d6 hg X0 hb d7 O9 HB; replace a7 := vE a7 hg hb; replace a8 := vE a8 hg hb; replace b1 := vE b1 hg hb; replace b2 := vE b2 hg hb; replace b4 := vE b4 hg hb; replace b5 := vE b5 hg hb; replace b7 := vE b7 hg hb; replace b8 := vE b8 hg hb; replace d0 := vE d0 hg hb; replace d1 := vE d1 hg hb; replace d8 := vE d8 hg hb; replace d9 := vE d9 hg hb; have t7 := nL hg a0; have l2 := nG hg a0; replace a0 := kB a0 hb; have u1 := nL hg a6; have l3 := nG hg a6; replace a6 := kB a6 hb; have u5 := nL hg b0; have l4 := nG hg b0; replace b0 := kB b0 hb; have u9 := nL hg b6; have l5 := nG hg b6; replace b6 := kB b6 hb; have v1 := nL hg c7; have l6 := nG hg c7; replace c7 := kB c7 hb; clear hb hg; have Q7 := nn l2; have Q8 := nn l3; have Q9 := nn l4; have R0 := nn l5; have R1 := nn l6; have E5 := y5 d7; obtain ⟨w6, x4, K8⟩ := Kd.V_slice d8.out; subst K8; obtain ⟨w7, x5, K9⟩ := Kd.V_slice d9.out; subst K9) | ((with_reducible refine q2l (t := 27) (p := 18) rfl ?_); refine q2a (t := 27) (p := 18) (v := ?vo_w81) (w1 := (((((X0.setCell ⟨d6, 0, none⟩ (.string p4)).setCell ⟨d6, 1, none⟩ (.string p5)).setCell ⟨d6, 2, none⟩ (.slice w6 p6.length x4)).setCell ⟨d6, 3, none⟩ (.int .i64 p7)).setCell ⟨d6, 4, none⟩ (.slice w7 p8.length x5))) ?hg ?ho ?hn ?hr ?_; (case ho => rfl); (case hg => rfl); (case hn => rfl); (case hr => first | (go_simp; done) | (go_simp; rfl)); intro t4 hw; have g8 := vW (ok' := fun k_ => k_ ≠ a5 ∧ k_ ≠ a9 ∧ k_ ≠ b3 ∧ k_ ≠ b9 ∧ k_ ≠ c6 ∧ k_ ≠ d6) hw a7; have g9 := vW (ok' := fun k_ => k_ ≠ a5 ∧ k_ ≠ a9 ∧ k_ ≠ b3 ∧ k_ ≠ b9 ∧ k_ ≠ c6 ∧ k_ ≠ d6) hw a8; have h0 := vW (ok' := fun k_ => k_ ≠ a5 ∧ k_ ≠ a9 ∧ k_ ≠ b3 ∧ k_ ≠ b9 ∧ k_ ≠ c6 ∧ k_ ≠ d6) hw b1; have h2 := vW (ok' := fun k_ => k_ ≠ a5 ∧ k_ ≠ a9 ∧ k_ ≠ b3 ∧ k_ ≠ b9 ∧ k_ ≠ c6 ∧ k_ ≠ d6) hw b2; have i1 := vW (ok' := fun k_ => k_ ≠ a5 ∧ k_ ≠ a9 ∧ k_ ≠ b3 ∧ k_ ≠ b9 ∧ k_ ≠ c6 ∧ k_ ≠ d6) hw b4; have i2 := vW (ok' := fun k_ => k_ ≠ a5 ∧ k_ ≠ a9 ∧ k_ ≠ b3 ∧ k_ ≠ b9 ∧ k_ ≠ c6 ∧ k_ ≠ d6) hw b5; have i3 := vW (ok' := fun k_ => k_ ≠ a5 ∧ k_ ≠ a9 ∧ k_ ≠ b3 ∧ k_ ≠ b9 ∧ k_ ≠ c6 ∧ k_ ≠ d6) hw b7; have n3 := vW (ok' := fun k_ => k_ ≠ a5 ∧ k_ ≠ a9 ∧ k_ ≠ b3 ∧ k_ ≠ b9 ∧ k_ ≠ c6 ∧ k_ ≠ d6) hw b8; have n4 := vW (ok' := fun k_ => k_ ≠ a5 ∧ k_ ≠ a9 ∧ k_ ≠ b3 ∧ k_ ≠ b9 ∧ k_ ≠ c6 ∧ k_ ≠ d6) hw d0; have n5 := vW (ok' := fun k_ => k_ ≠ a5 ∧ k_ ≠ a9 ∧ k_ ≠ b3 ∧ k_ ≠ b9 ∧ k_ ≠ c6 ∧ k_ ≠ d6) hw d1; have m7 := vW (ok' := fun k_ => k_ ≠ a5 ∧ k_ ≠ a9 ∧ k_ ≠ b3 ∧ k_ ≠ b9 ∧ k_ ≠ c6 ∧ k_ ≠ d6) hw d8; have m8 := vW (ok' := fun k_ => k_ ≠ a5 ∧ k_ ≠ a9 ∧ k_ ≠ b3 ∧ k_ ≠ b9 ∧ k_ ≠ c6 ∧ k_ ≠ d6) hw d9; have m9 : q0e (t4.heap[a5]? = some (.cells #[.string d3, .string d4, .slice f2 c8.length f4, .int .i64 d5, .slice f3 c9.length f5] 27 (0, 0))) := ⟨(by rw [hw]; exact (pk a0.out))⟩; have n0 : q0e (t4.heap[a9]? = some (.cells #[.string g3, .string g4, .slice j6 e3.length m5, .int .i64 g5, .slice j7 e4.length m6] 27 (0, 0))) := ⟨(by rw [hw]; exact (pk a6.out))⟩; have n1 : q0e (t4.heap[b3]? = some (.cells #[.string h3, .string h4, .slice o1 h5.length o9, .int .i64 h6, .slice o2 h7.length p0] 27 (0, 0))) := ⟨(by rw [hw]; exact (pk b0.out))⟩; have n2 : q0e (t4.heap[b9]? = some (.cells #[.string i4, .string i5, .slice s0 i6.length s4, .int .i64 i7, .slice s1 i8.length s5] 27 (0, 0))) := ⟨(by rw [hw]; exact (pk b6.out))⟩; have C0 : q0e (t4.heap[c6]? = some (.cells #[.string n6, .string n7, .slice s2 n8.length s6, .int .i64 n9, .slice s3 o0.length s7] 27 (0, 0))) := ⟨(by rw [hw]; exact (pk c7.out))⟩; have C1 : q0e (t4.heap[d6]? = some (.cells #[.string p4, .string p5, .slice w6 p6.length x4, .int .i64 p7, .slice w7 p8.length x5] 27 (0, 0))) := ⟨(by rw [hw]; exact (pP d7.out))⟩; have C2 : q0e (Below w.heap.size w t4) := ⟨(by rw [hw]; exact (pB HB.out))⟩; clear hw a7 a8 b1 b2 b4 b5 b7 b8 d0 d1 d8 d9 a0 a6 b0 b6 c7 d7 HB; have a7 := g8; have a8 := g9; have b1 := h0; have b2 := h2; have b4 := i1; have b5 := i2; have b7 := i3; have b8 := n3; have d0 := n4; have d1 := n5; have d8 := m7; have d9 := m8; have a0 := m9; have a6 := n0; have b0 := n1; have b6 := n2; have c7 := C0; have d7 := C1; have HB := C2; clear g8 g9 h0 h2 i1 i2 i3 n3 n4 n5 m7 m8 m9 n0 n1 n2 C0 C1 C2; have E6 := y5 a0) | ((with_reducible refine gC 22 ?_); refine gL 99 Try.func22 #[.agg #[.string d3, .string d4, .slice f2 c8.length f4, .int .i64 d5, .slice f3 c9.length f5], .int .i64 2, .int .i64 a1, .int .i64 a2, .string a3] ?_; (with_reducible refine (Fd.calls k d3 d4 (fun k_ => (k_ ≠ a5 ∧ (k_ ≠ a9 ∧ (k_ ≠ b3 ∧ (k_ ≠ b9 ∧ (k_ ≠ c6 ∧ k_ ≠ d6)))))) _ _ c8 d5 (fun k_ => (k_ ≠ a5 ∧ (k_ ≠ a9 ∧ (k_ ≠ b3 ∧ (k_ ≠ b9 ∧ (k_ ≠ c6 ∧ k_ ≠ d6)))))) _ _ c9 2 a1 a2 a3 s8 s9 t0 t1 t2 C5 _ ?side1 ?side2 S0.out).mono ?_); (case side1 => exact a7.out); (case side2 => exact a8.out); rintro e X9 ⟨T1, T2, rfl, f0, f1, hb⟩; refine ⟨_, rfl, ?_⟩; replace a7 := vB a7 hb; replace a8 := vB a8 hb; replace b1 := vB b1 hb; replace b2 := vB b2 hb; replace b4 := vB b4 hb; replace b5 := vB b5 hb; replace b7 := vB b7 hb; replace b8 := vB b8 hb; replace d0 := vB d0 hb; replace d1 := vB d1 hb; replace d8 := vB d8 hb; replace d9 := vB d9 hb; have e0 := vL (ok' := fun k_ => k_ ≠ a5 ∧ k_ ≠ a9 ∧ k_ ≠ b3 ∧ k_ ≠ b9 ∧ k_ ≠ c6 ∧ k_ ≠ d6) HB f0 (fun k_ d2 => ⟨Or.elim d2 (fun a4 => Or.elim a4 (fun a4 => a4.1) (fun a4 => a4.1)) (fB a0), Or.elim d2 (fun a4 => Or.elim a4 (fun a4 => a4.2.1) (fun a4 => a4.2.1)) (fB a6), Or.elim d2 (fun a4 => Or.elim a4 (fun a4 => a4.2.2.1) (fun a4 => a4.2.2.1)) (fB b0), Or.elim d2 (fun a4 => Or.elim a4 (fun a4 => a4.2.2.2.1) (fun a4 => a4.2.2.2.1)) (fB b6), Or.elim d2 (fun a4 => Or.elim a4 (fun a4 => a4.2.2.2.2.1) (fun a4 => a4.2.2.2.2.1)) (fB c7), Or.elim d2 (fun a4 => Or.elim a4 (fun a4 => a4.2.2.2.2.2) (fun a4 => a4.2.2.2.2.2)) (fB d7)⟩); have e1 := vL (ok' := fun k_ => k_ ≠ a5 ∧ k_ ≠ a9 ∧ k_ ≠ b3 ∧ k_ ≠ b9 ∧ k_ ≠ c6 ∧ k_ ≠ d6) HB f1 (fun k_ d2 => ⟨Or.elim d2 (fun a4 => Or.elim a4 (fun a4 => a4.1) (fun a4 => a4.1)) (fB a0), Or.elim d2 (fun a4 => Or.elim a4 (fun a4 => a4.2.1) (fun a4 => a4.2.1)) (fB a6), Or.elim d2 (fun a4 => Or.elim a4 (fun a4 => a4.2.2.1) (fun a4 => a4.2.2.1)) (fB b0), Or.elim d2 (fun a4 => Or.elim a4 (fun a4 => a4.2.2.2.1) (fun a4 => a4.2.2.2.1)) (fB b6), Or.elim d2 (fun a4 => Or.elim a4 (fun a4 => a4.2.2.2.2.1) (fun a4 => a4.2.2.2.2.1)) (fB c7), Or.elim d2 (fun a4 => Or.elim a4 (fun a4 => a4.2.2.2.2.2) (fun a4 => a4.2.2.2.2.2)) (fB d7)⟩); replace a0 := kB a0 hb; replace a6 := kB a6 hb; replace b0 := kB b0 hb; replace b6 := kB b6 hb; replace c7 := kB c7 hb; replace d7 := kB d7 hb; replace HB := bS HB hb; (try clear hb); (try clear f0); (try clear f1)) | ((with_reducible refine gD 20 ?_); refine bz 20 #[.string (⟨#[]⟩ : ByteArray), .string (⟨#[]⟩ : ByteArray), .slice none 0 0, .int .i64 0, .slice none 0 0] 27 HB ?_; clear HB; intro z0 hg Z0 hb e7 P0 HB; replace a7 := vE a7 hg hb; replace a8 := vE a8 hg hb; replace b1 := vE b1 hg hb; replace b2 := vE b2 hg hb; replace b4 := vE b4 hg hb; replace b5 := vE b5 hg hb; replace b7 := vE b7 hg hb; replace b8 := vE b8 hg hb; replace d0 := vE d0 hg hb; replace d1 := vE d1 hg hb; replace d8 := vE d8 hg hb; replace d9 := vE d9 hg hb; replace e0 := vE e0 hg hb; replace e1 := vE e1 hg hb; have t8 := nL hg a0; have l7 := nG hg a0; replace a0 := kB a0 hb; have u2 := nL hg a6; have l8 := nG hg a6; replace a6 := kB a6 hb; have u6 := nL hg b0; have l9 := nG hg b0; replace b0 := kB b0 hb; have v0 := nL hg b6; have m0 := nG hg b6; replace b6 := kB b6 hb; have v2 := nL hg c7; have m1 := nG hg c7; replace c7 := kB c7 hb; have v3 := nL hg d7; have m2 := nG hg d7; replace d7 := kB d7 hb; clear hb hg; have R2 := nn l7; have R3 := nn l8; have R4 := nn l9; have R5 := nn m0; have R6 := nn m1; have R7 := nn m2; have E7 := y5 e7; obtain ⟨H8, I6, L0⟩ := Kd.V_slice e0.out; subst L0; obtain ⟨H9, I7, L1⟩ := Kd.V_slice e1.out; subst L1) | ((with_reducible refine gC 16 ?_); refine gL 102 Try.func16 #[] ?_; (with_reducible refine (F9.calls k  true _ S1.out).mono ?_); rintro e Z1 ⟨rfl, hb⟩; refine ⟨_, rfl, ?_⟩; replace a7 := vB a7 hb; replace a8 := vB a8 hb; replace b1 := vB b1 hb; replace b2 := vB b2 hb; replace b4 := vB b4 hb; replace b5 := vB b5 hb; replace b7 := vB b7 hb; replace b8 := vB b8 hb; replace d0 := vB d0 hb; replace d1 := vB d1 hb; replace d8 := vB d8 hb; replace d9 := vB d9 hb; replace e0 := vB e0 hb; replace e1 := vB e1 hb; replace a0 := kB a0 hb; replace a6 := kB a6 hb; replace b0 := kB b0 hb; replace b6 := kB b6 hb; replace c7 := kB c7 hb; replace d7 := kB d7 hb; replace e7 := am (q0c (g := z0) (o := .cells #[.string s8, .string s9, .slice H8 t0.length I6, .int .i64 t1, .slice H9 t2.length I7] 27 (0, 0)) (pP e7.out) hb); replace HB := bS HB hb; (try clear hb); have E8 := y5 a6; have E9 := y5 c7) | (go_at_call 12; (with_reducible refine (Ft.calls k g3 g4 _ _ e3 g5 _ _ e4 n6 n7 _ _ n8 n9 _ _ o0 true _ ?side1 ?side2 ?side3 ?side4 ?side5 ?side6 ?side7 ?side8 S3.out).mono ?_); (case side1 => exact pC ((Kd.V_reads' b1.out).2.2)); (case side2 => exact (Kd.V_reads' b1.out).2.1); (case side3 => exact pC ((Kd.V_reads' b2.out).2.2)); (case side4 => exact (Kd.V_reads' b2.out).2.1); (case side5 => exact pC ((Kd.V_reads' d0.out).2.2)); (case side6 => exact (Kd.V_reads' d0.out).2.1); (case side7 => exact pC ((Kd.V_reads' d1.out).2.2)); (case side8 => exact (Kd.V_reads' d1.out).2.1); rintro e Z2 ⟨rfl, hb⟩; replace a7 := vB a7 hb; replace a8 := vB a8 hb; replace b1 := vB b1 hb; replace b2 := vB b2 hb; replace b4 := vB b4 hb; replace b5 := vB b5 hb; replace b7 := vB b7 hb; replace b8 := vB b8 hb; replace d0 := vB d0 hb; replace d1 := vB d1 hb; replace d8 := vB d8 hb; replace d9 := vB d9 hb; replace e0 := vB e0 hb; replace e1 := vB e1 hb; replace a0 := kB a0 hb; replace a6 := kB a6 hb; replace b0 := kB b0 hb; replace b6 := kB b6 hb; replace c7 := kB c7 hb; replace d7 := kB d7 hb; replace e7 := kB e7 hb; replace HB := bS HB hb; (try clear hb); have H0 := y5 b0; have H1 := y5 d7) | (go_at_call 12; (with_reducible refine (Ft.calls k h3 h4 _ _ h5 h6 _ _ h7 p4 p5 _ _ p6 p7 _ _ p8 true _ ?side1 ?side2 ?side3 ?side4 ?side5 ?side6 ?side7 ?side8 S4.out).mono ?_); (case side1 => exact pC ((Kd.V_reads' b4.out).2.2)); (case side2 => exact (Kd.V_reads' b4.out).2.1); (case side3 => exact pC ((Kd.V_reads' b5.out).2.2)); (case side4 => exact (Kd.V_reads' b5.out).2.1); (case side5 => exact pC ((Kd.V_reads' d8.out).2.2)); (case side6 => exact (Kd.V_reads' d8.out).2.1); (case side7 => exact pC ((Kd.V_reads' d9.out).2.2)); (case side8 => exact (Kd.V_reads' d9.out).2.1); rintro e T3 ⟨rfl, hb⟩; replace a7 := vB a7 hb; replace a8 := vB a8 hb; replace b1 := vB b1 hb; replace b2 := vB b2 hb; replace b4 := vB b4 hb; replace b5 := vB b5 hb; replace b7 := vB b7 hb; replace b8 := vB b8 hb; replace d0 := vB d0 hb; replace d1 := vB d1 hb; replace d8 := vB d8 hb; replace d9 := vB d9 hb; replace e0 := vB e0 hb; replace e1 := vB e1 hb; replace a0 := kB a0 hb; replace a6 := kB a6 hb; replace b0 := kB b0 hb; replace b6 := kB b6 hb; replace c7 := kB c7 hb; replace d7 := kB d7 hb; replace e7 := kB e7 hb; replace HB := bS HB hb; (try clear hb); have z6 := y5 b6; have z7 := y5 e7) | (go_at_call 12; (with_reducible refine (Ft.calls k i4 i5 _ _ i6 i7 _ _ i8 s8 s9 _ _ t0 t1 _ _ t2 N0 _ ?side1 ?side2 ?side3 ?side4 ?side5 ?side6 ?side7 ?side8 S5.out).mono ?_); (case side1 => exact pC ((Kd.V_reads' b7.out).2.2)); (case side2 => exact (Kd.V_reads' b7.out).2.1); (case side3 => exact pC ((Kd.V_reads' b8.out).2.2)); (case side4 => exact (Kd.V_reads' b8.out).2.1); (case side5 => exact pC ((Kd.V_reads' e0.out).2.2)); (case side6 => exact (Kd.V_reads' e0.out).2.1); (case side7 => exact pC ((Kd.V_reads' e1.out).2.2)); (case side8 => exact (Kd.V_reads' e1.out).2.1); rintro e T4 ⟨rfl, hb⟩; replace a7 := vB a7 hb; replace a8 := vB a8 hb; replace b1 := vB b1 hb; replace b2 := vB b2 hb; replace b4 := vB b4 hb; replace b5 := vB b5 hb; replace b7 := vB b7 hb; replace b8 := vB b8 hb; replace d0 := vB d0 hb; replace d1 := vB d1 hb; replace d8 := vB d8 hb; replace d9 := vB d9 hb; replace e0 := vB e0 hb; replace e1 := vB e1 hb; replace a0 := kB a0 hb; replace a6 := kB a6 hb; replace b0 := kB b0 hb; replace b6 := kB b6 hb; replace c7 := kB c7 hb; replace d7 := kB d7 hb; replace e7 := kB e7 hb; replace HB := bS HB hb; (try clear hb)))
        go_ret
        exact ⟨er, pB HB.out⟩
       rw [if_neg D2] at H
       exact absurd H (by simp)
      replace D1 := Bool.eq_false_iff.mpr D1
      subst D1
      rw [if_neg (show ¬ (false = true) by decide)] at H
      try dsimp only at H
      exact absurd H (by simp)
     rw [if_neg D0] at H
     exact absurd H (by simp)
    replace C9 := Bool.eq_false_iff.mpr C9
    subst C9
    rw [if_neg (show ¬ (false = true) by decide)] at H
    try dsimp only at H
    exact absurd H (by simp)
   rw [if_neg C8] at H
   exact absurd H (by simp)
  replace C7 := Bool.eq_false_iff.mpr C7
  subst C7
  rw [if_neg (show ¬ (false = true) by decide)] at H
  try dsimp only at H
  exact absurd H (by simp)
 replace C6 := Bool.eq_false_iff.mpr C6
 subst C6
 rw [if_neg (show ¬ (false = true) by decide)] at H
 try dsimp only at H
 replace H := Option.bind_eq_some_iff.mp H
 obtain ⟨M3, q1, H⟩ := H
 try dsimp only at H
 have H4 := am q1
 clear q1
 by_cases o3 : M3 = true
 ·
  subst o3
  rw [if_pos rfl] at H
  try dsimp only at H
  by_cases o4 : p1 = 1
  ·
   rw [if_pos o4] at H
   obtain ⟨I0, I1⟩ := qt o4
   clear o4
   by_cases o5 : p2 = 1
   ·
    rw [if_pos o5] at H
    obtain ⟨I2, I3⟩ := qt o5
    clear o5
    by_cases o6 : p3 = 1
    ·
     rw [if_pos o6] at H
     obtain ⟨I4, I5⟩ := qt o6
     clear o6
     replace H := Option.bind_eq_some_iff.mp H
     obtain ⟨M4, q2, H⟩ := H
     try dsimp only at H
     have H5 := am q2
     clear q2
     by_cases o7 : M4 = true
     ·
      subst o7
      rw [if_pos rfl] at H
      try dsimp only at H
      replace H := Option.bind_eq_some_iff.mp H
      obtain ⟨M5, q3, H⟩ := H
      try dsimp only at H
      have H6 := am q3
      clear q3
      by_cases o8 : M5 = true
      ·
       subst o8
       rw [if_pos rfl] at H
       try dsimp only at H
       replace H := Option.bind_eq_some_iff.mp H
       obtain ⟨M6, q4, H⟩ := H
       try dsimp only at H
       have H7 := am q4
       clear q4
       obtain rfl := Option.some.inj H
       go_enter Try.func4, Try.ntmps4
       have r7 : True := trivial; have r8 : True := trivial; have r9 : True := trivial; go_wp2_with (first | ((with_reducible refine gD 4 ?_); refine bz 4 #[.string h8, .string h9, .slice j4 g6.length m3, .int .i64 i0, .slice j5 g7.length m4] 27 HB ?_; clear HB; intro a5 hg T5 hb a0 f6 HB; clear hb hg; have z8 := y5 a0) | ((with_reducible refine gC 9 ?_); refine gL 23 Try.func9 #[.agg #[.string h8, .string h9, .slice j4 g6.length m3, .int .i64 i0, .slice j5 g7.length m4]] ?_; (with_reducible refine (Gi.calls k h8 h9 (fun k_ => k_ < w.heap.size) _ _ g6 i0 (fun k_ => k_ < w.heap.size) _ _ g7 d3 d4 c8 d5 c9 _ ?side1 ?side2 A5.out).mono ?_); (case side1 => exact Kd.V_mk q7.out (Kd.F_below (Kd.C_F k49_heap q9.out) (pB HB.out))); (case side2 => exact Kd.V_mk q8.out (Kd.F_below (Kd.C_F k51_heap r0.out) (pB HB.out))); rintro e N9 ⟨N1, N2, rfl, f0, f1, hb⟩; refine ⟨_, rfl, ?_⟩; have a7 := vL (ok' := fun k_ => k_ ≠ a5) HB f0 (fun k_ d2 => Or.elim d2 (fun a4 => Or.elim a4 (nw f6) (nw f6)) (fB a0)); have a8 := vL (ok' := fun k_ => k_ ≠ a5) HB f1 (fun k_ d2 => Or.elim d2 (fun a4 => Or.elim a4 (nw f6) (nw f6)) (fB a0)); replace a0 := kB a0 hb; replace HB := bS HB hb; (try clear hb); (try clear f0); (try clear f1); have z9 := y5 a0; obtain ⟨e5, e8, x6⟩ := Kd.V_slice a7.out; subst x6; obtain ⟨e6, e9, x7⟩ := Kd.V_slice a8.out; subst x7) | ((with_reducible refine q2l (t := 27) (p := 4) rfl ?_); refine q2a (t := 27) (p := 4) (v := ?vo_w120) (w1 := (((((N9.setCell ⟨a5, 0, none⟩ (.string d3)).setCell ⟨a5, 1, none⟩ (.string d4)).setCell ⟨a5, 2, none⟩ (.slice e5 c8.length e8)).setCell ⟨a5, 3, none⟩ (.int .i64 d5)).setCell ⟨a5, 4, none⟩ (.slice e6 c9.length e9))) ?hg ?ho ?hn ?hr ?_; (case ho => rfl); (case hg => rfl); (case hn => rfl); (case hr => first | (go_simp; done) | (go_simp; rfl)); intro p9 hw; have g8 : q0e (Kd.V k49 49 p9 w.heap.size (fun k_ => k_ ≠ a5) (.slice e5 c8.length e8) c8) := ⟨(by rw [hw]; exact (pV a7.out))⟩; have g9 : q0e (Kd.V k51 51 p9 w.heap.size (fun k_ => k_ ≠ a5) (.slice e6 c9.length e9) c9) := ⟨(by rw [hw]; exact (pV a8.out))⟩; have h0 : q0e (p9.heap[a5]? = some (.cells #[.string d3, .string d4, .slice e5 c8.length e8, .int .i64 d5, .slice e6 c9.length e9] 27 (0, 0))) := ⟨(by rw [hw]; exact (pP a0.out))⟩; have h2 : q0e (Below w.heap.size w p9) := ⟨(by rw [hw]; exact (pB HB.out))⟩; clear hw a7 a8 a0 HB; have a7 := g8; have a8 := g9; have a0 := h0; have HB := h2; clear g8 g9 h0 h2; have A1 := y5 a0) | ((with_reducible refine gC 19 ?_); refine gL 28 Try.func19 #[.agg #[.string d3, .string d4, .slice e5 c8.length e8, .int .i64 d5, .slice e6 c9.length e9], .int .i64 a1, .int .i64 a2] ?_; (with_reducible refine (Gn.calls k d3 d4 (fun k_ => k_ ≠ a5) _ _ c8 d5 (fun k_ => k_ ≠ a5) _ _ c9 a1 a2 g3 g4 e3 g5 e4 p1 _ ?side1 ?side2 A6.out).mono ?_); (case side1 => exact a7.out); (case side2 => exact a8.out); rintro e T6 ⟨N3, N4, rfl, f0, f1, hb⟩; refine ⟨_, rfl, ?_⟩; replace a7 := vB a7 hb; replace a8 := vB a8 hb; have b1 := vL (ok' := fun k_ => k_ ≠ a5) HB f0 (fun k_ d2 => Or.elim d2 (fun a4 => Or.elim a4 (fun a4 => a4) (fun a4 => a4)) (fB a0)); have b2 := vL (ok' := fun k_ => k_ ≠ a5) HB f1 (fun k_ d2 => Or.elim d2 (fun a4 => Or.elim a4 (fun a4 => a4) (fun a4 => a4)) (fB a0)); replace a0 := kB a0 hb; replace HB := bS HB hb; (try clear hb); (try clear f0); (try clear f1)) | ((with_reducible refine gD 9 ?_); refine bz 9 #[.string (⟨#[]⟩ : ByteArray), .string (⟨#[]⟩ : ByteArray), .slice none 0 0, .int .i64 0, .slice none 0 0] 27 HB ?_; clear HB; intro a9 hg O0 hb a6 w8 HB; replace a7 := vE a7 hg hb; replace a8 := vE a8 hg hb; replace b1 := vE b1 hg hb; replace b2 := vE b2 hg hb; have j8 := nL hg a0; have f7 := nG hg a0; replace a0 := kB a0 hb; clear hb hg; have L2 := nn f7; have A2 := y5 a6; obtain ⟨j0, j2, x8⟩ := Kd.V_slice b1.out; subst x8; obtain ⟨j1, j3, x9⟩ := Kd.V_slice b2.out; subst x9) | ((with_reducible refine q2l (t := 27) (p := 9) rfl ?_); refine q2a (t := 27) (p := 9) (v := ?vo_w128) (w1 := (((((O0.setCell ⟨a9, 0, none⟩ (.string g3)).setCell ⟨a9, 1, none⟩ (.string g4)).setCell ⟨a9, 2, none⟩ (.slice j0 e3.length j2)).setCell ⟨a9, 3, none⟩ (.int .i64 g5)).setCell ⟨a9, 4, none⟩ (.slice j1 e4.length j3))) ?hg ?ho ?hn ?hr ?_; (case ho => rfl); (case hg => rfl); (case hn => rfl); (case hr => first | (go_simp; done) | (go_simp; rfl)); intro i9 hw; have g8 : q0e (Kd.V k49 49 i9 w.heap.size (fun k_ => k_ ≠ a5 ∧ k_ ≠ a9) (.slice e5 c8.length e8) c8) := ⟨(by rw [hw]; exact (pV a7.out))⟩; have g9 : q0e (Kd.V k51 51 i9 w.heap.size (fun k_ => k_ ≠ a5 ∧ k_ ≠ a9) (.slice e6 c9.length e9) c9) := ⟨(by rw [hw]; exact (pV a8.out))⟩; have h0 : q0e (Kd.V k49 49 i9 w.heap.size (fun k_ => k_ ≠ a5 ∧ k_ ≠ a9) (.slice j0 e3.length j2) e3) := ⟨(by rw [hw]; exact (pV b1.out))⟩; have h2 : q0e (Kd.V k51 51 i9 w.heap.size (fun k_ => k_ ≠ a5 ∧ k_ ≠ a9) (.slice j1 e4.length j3) e4) := ⟨(by rw [hw]; exact (pV b2.out))⟩; have i1 : q0e (i9.heap[a5]? = some (.cells #[.string d3, .string d4, .slice e5 c8.length e8, .int .i64 d5, .slice e6 c9.length e9] 27 (0, 0))) := ⟨(by rw [hw]; exact (pk a0.out))⟩; have i2 : q0e (i9.heap[a9]? = some (.cells #[.string g3, .string g4, .slice j0 e3.length j2, .int .i64 g5, .slice j1 e4.length j3] 27 (0, 0))) := ⟨(by rw [hw]; exact (pP a6.out))⟩; have i3 : q0e (Below w.heap.size w i9) := ⟨(by rw [hw]; exact (pB HB.out))⟩; clear hw a7 a8 b1 b2 a0 a6 HB; have a7 := g8; have a8 := g9; have b1 := h0; have b2 := h2; have a0 := i1; have a6 := i2; have HB := i3; clear g8 g9 h0 h2 i1 i2 i3; have A3 := y5 a0) | ((with_reducible refine gC 20 ?_); refine gL 36 Try.func20 #[.agg #[.string d3, .string d4, .slice e5 c8.length e8, .int .i64 d5, .slice e6 c9.length e9], .int .i64 a1, .int .i64 a2, .string a3] ?_; (with_reducible refine (Gp.calls k d3 d4 (fun k_ => (k_ ≠ a5 ∧ k_ ≠ a9)) _ _ c8 d5 (fun k_ => (k_ ≠ a5 ∧ k_ ≠ a9)) _ _ c9 a1 a2 a3 h3 h4 h5 h6 h7 p2 _ ?side1 ?side2 A7.out).mono ?_); (case side1 => exact a7.out); (case side2 => exact a8.out); rintro e T7 ⟨N5, N6, rfl, f0, f1, hb⟩; refine ⟨_, rfl, ?_⟩; replace a7 := vB a7 hb; replace a8 := vB a8 hb; replace b1 := vB b1 hb; replace b2 := vB b2 hb; have b4 := vL (ok' := fun k_ => k_ ≠ a5 ∧ k_ ≠ a9) HB f0 (fun k_ d2 => ⟨Or.elim d2 (fun a4 => Or.elim a4 (fun a4 => a4.1) (fun a4 => a4.1)) (fB a0), Or.elim d2 (fun a4 => Or.elim a4 (fun a4 => a4.2) (fun a4 => a4.2)) (fB a6)⟩); have b5 := vL (ok' := fun k_ => k_ ≠ a5 ∧ k_ ≠ a9) HB f1 (fun k_ d2 => ⟨Or.elim d2 (fun a4 => Or.elim a4 (fun a4 => a4.1) (fun a4 => a4.1)) (fB a0), Or.elim d2 (fun a4 => Or.elim a4 (fun a4 => a4.2) (fun a4 => a4.2)) (fB a6)⟩); replace a0 := kB a0 hb; replace a6 := kB a6 hb; replace HB := bS HB hb; (try clear hb); (try clear f0); (try clear f1)) | ((with_reducible refine gD 11 ?_); refine bz 11 #[.string (⟨#[]⟩ : ByteArray), .string (⟨#[]⟩ : ByteArray), .slice none 0 0, .int .i64 0, .slice none 0 0] 27 HB ?_; clear HB; intro b3 hg O1 hb b0 w9 HB; replace a7 := vE a7 hg hb; replace a8 := vE a8 hg hb; replace b1 := vE b1 hg hb; replace b2 := vE b2 hg hb; replace b4 := vE b4 hg hb; replace b5 := vE b5 hg hb; have j9 := nL hg a0; have f8 := nG hg a0; replace a0 := kB a0 hb; have k1 := nL hg a6; have f9 := nG hg a6; replace a6 := kB a6 hb; clear hb hg; have L3 := nn f8; have L4 := nn f9; have A4 := y5 b0; obtain ⟨q5, r1, y0⟩ := Kd.V_slice b4.out; subst y0; obtain ⟨q6, r2, y6⟩ := Kd.V_slice b5.out; subst y6) | ((with_reducible refine q2l (t := 27) (p := 11) rfl ?_); refine q2a (t := 27) (p := 11) (v := ?vo_w137) (w1 := (((((O1.setCell ⟨b3, 0, none⟩ (.string h3)).setCell ⟨b3, 1, none⟩ (.string h4)).setCell ⟨b3, 2, none⟩ (.slice q5 h5.length r1)).setCell ⟨b3, 3, none⟩ (.int .i64 h6)).setCell ⟨b3, 4, none⟩ (.slice q6 h7.length r2))) ?hg ?ho ?hn ?hr ?_; (case ho => rfl); (case hg => rfl); (case hn => rfl); (case hr => first | (go_simp; done) | (go_simp; rfl)); intro q0 hw; have g8 := vW (ok' := fun k_ => k_ ≠ a5 ∧ k_ ≠ a9 ∧ k_ ≠ b3) hw a7; have g9 := vW (ok' := fun k_ => k_ ≠ a5 ∧ k_ ≠ a9 ∧ k_ ≠ b3) hw a8; have h0 := vW (ok' := fun k_ => k_ ≠ a5 ∧ k_ ≠ a9 ∧ k_ ≠ b3) hw b1; have h2 := vW (ok' := fun k_ => k_ ≠ a5 ∧ k_ ≠ a9 ∧ k_ ≠ b3) hw b2; have i1 := vW (ok' := fun k_ => k_ ≠ a5 ∧ k_ ≠ a9 ∧ k_ ≠ b3) hw b4; have i2 := vW (ok' := fun k_ => k_ ≠ a5 ∧ k_ ≠ a9 ∧ k_ ≠ b3) hw b5; have i3 : q0e (q0.heap[a5]? = some (.cells #[.string d3, .string d4, .slice e5 c8.length e8, .int .i64 d5, .slice e6 c9.length e9] 27 (0, 0))) := ⟨(by rw [hw]; exact (pk a0.out))⟩; have n3 : q0e (q0.heap[a9]? = some (.cells #[.string g3, .string g4, .slice j0 e3.length j2, .int .i64 g5, .slice j1 e4.length j3] 27 (0, 0))) := ⟨(by rw [hw]; exact (pk a6.out))⟩; have n4 : q0e (q0.heap[b3]? = some (.cells #[.string h3, .string h4, .slice q5 h5.length r1, .int .i64 h6, .slice q6 h7.length r2] 27 (0, 0))) := ⟨(by rw [hw]; exact (pP b0.out))⟩; have n5 : q0e (Below w.heap.size w q0) := ⟨(by rw [hw]; exact (pB HB.out))⟩; clear hw a7 a8 b1 b2 b4 b5 a0 a6 b0 HB; have a7 := g8; have a8 := g9; have b1 := h0; have b2 := h2; have b4 := i1; have b5 := i2; have a0 := i3; have a6 := n3; have b0 := n4; have HB := n5; clear g8 g9 h0 h2 i1 i2 i3 n3 n4 n5; have B0 := y5 a0) | ((with_reducible refine gC 21 ?_); refine gL 43 Try.func21 #[.agg #[.string d3, .string d4, .slice e5 c8.length e8, .int .i64 d5, .slice e6 c9.length e9], .int .i64 a1, .int .i64 a2] ?_; (with_reducible refine (Gq.calls k d3 d4 (fun k_ => (k_ ≠ a5 ∧ (k_ ≠ a9 ∧ k_ ≠ b3))) _ _ c8 d5 (fun k_ => (k_ ≠ a5 ∧ (k_ ≠ a9 ∧ k_ ≠ b3))) _ _ c9 a1 a2 i4 i5 i6 i7 i8 p3 _ ?side1 ?side2 A8.out).mono ?_); (case side1 => exact a7.out); (case side2 => exact a8.out); rintro e T8 ⟨N7, N8, rfl, f0, f1, hb⟩; refine ⟨_, rfl, ?_⟩; replace a7 := vB a7 hb; replace a8 := vB a8 hb; replace b1 := vB b1 hb; replace b2 := vB b2 hb; replace b4 := vB b4 hb; replace b5 := vB b5 hb; have b7 := vL (ok' := fun k_ => k_ ≠ a5 ∧ k_ ≠ a9 ∧ k_ ≠ b3) HB f0 (fun k_ d2 => ⟨Or.elim d2 (fun a4 => Or.elim a4 (fun a4 => a4.1) (fun a4 => a4.1)) (fB a0), Or.elim d2 (fun a4 => Or.elim a4 (fun a4 => a4.2.1) (fun a4 => a4.2.1)) (fB a6), Or.elim d2 (fun a4 => Or.elim a4 (fun a4 => a4.2.2) (fun a4 => a4.2.2)) (fB b0)⟩); have b8 := vL (ok' := fun k_ => k_ ≠ a5 ∧ k_ ≠ a9 ∧ k_ ≠ b3) HB f1 (fun k_ d2 => ⟨Or.elim d2 (fun a4 => Or.elim a4 (fun a4 => a4.1) (fun a4 => a4.1)) (fB a0), Or.elim d2 (fun a4 => Or.elim a4 (fun a4 => a4.2.1) (fun a4 => a4.2.1)) (fB a6), Or.elim d2 (fun a4 => Or.elim a4 (fun a4 => a4.2.2) (fun a4 => a4.2.2)) (fB b0)⟩); replace a0 := kB a0 hb; replace a6 := kB a6 hb; replace b0 := kB b0 hb; replace HB := bS HB hb; (try clear hb); (try clear f0); (try clear f1)) | ((with_reducible refine gD 13 ?_); refine bz 13 #[.string (⟨#[]⟩ : ByteArray), .string (⟨#[]⟩ : ByteArray), .slice none 0 0, .int .i64 0, .slice none 0 0] 27 HB ?_; clear HB; intro b9 hg T9 hb b6 x0 HB; replace a7 := vE a7 hg hb; replace a8 := vE a8 hg hb; replace b1 := vE b1 hg hb; replace b2 := vE b2 hg hb; replace b4 := vE b4 hg hb; replace b5 := vE b5 hg hb; replace b7 := vE b7 hg hb; replace b8 := vE b8 hg hb; have k0 := nL hg a0; have g0 := nG hg a0; replace a0 := kB a0 hb; have k2 := nL hg a6; have g1 := nG hg a6; replace a6 := kB a6 hb; have k3 := nL hg b0; have g2 := nG hg b0; replace b0 := kB b0 hb; clear hb hg; have L5 := nn g0; have L6 := nn g1; have L7 := nn g2; have B1 := y5 b6; obtain ⟨w4, x2, y7⟩ := Kd.V_slice b7.out; subst y7; obtain ⟨w5, x3, y8⟩ := Kd.V_slice b8.out; subst y8; have B2 := y5 a0) | ((with_reducible refine gC 15 ?_); refine gL 47 Try.func15 #[.agg #[.string d3, .string d4, .slice e5 c8.length e8, .int .i64 d5, .slice e6 c9.length e9]] ?_; (with_reducible refine (Fa.calls k d3 d4 _ _ c8 d5 _ _ c9 false _ ?side1 ?side2 ?side3 ?side4 A9.out).mono ?_); (case side1 => exact (Kd.V_reads' (pV a7.out)).2.2); (case side2 => exact (Kd.V_reads' a7.out).2.1); (case side3 => exact (Kd.V_reads' (pV a8.out)).2.2); (case side4 => exact (Kd.V_reads' a8.out).2.1); rintro e W0 ⟨rfl, hb⟩; refine ⟨_, rfl, ?_⟩; replace a7 := vB a7 hb; replace a8 := vB a8 hb; replace b1 := vB b1 hb; replace b2 := vB b2 hb; replace b4 := vB b4 hb; replace b5 := vB b5 hb; replace b7 := vB b7 hb; replace b8 := vB b8 hb; replace a0 := kB a0 hb; replace a6 := kB a6 hb; replace b0 := kB b0 hb; replace b6 := am (q0c (g := b9) (o := .cells #[.string i4, .string i5, .slice w4 i6.length x2, .int .i64 i7, .slice w5 i8.length x3] 27 (0, 0)) (pP b6.out) hb); replace HB := bS HB hb; (try clear hb)) | ((with_reducible refine gD 15 ?_); refine bz 15 #[.string (⟨#[]⟩ : ByteArray), .string (⟨#[]⟩ : ByteArray), .slice none 0 0, .int .i64 0, .slice none 0 0] 27 HB ?_; clear HB; intro y9 hg W1 hb e2 O7 HB; replace a7 := vE a7 hg hb; replace a8 := vE a8 hg hb; replace b1 := vE b1 hg hb; replace b2 := vE b2 hg hb; replace b4 := vE b4 hg hb; replace b5 := vE b5 hg hb; replace b7 := vE b7 hg hb; replace b8 := vE b8 hg hb; have t5 := nL hg a0; have k4 := nG hg a0; replace a0 := kB a0 hb; have t9 := nL hg a6; have k5 := nG hg a6; replace a6 := kB a6 hb; have u3 := nL hg b0; have k6 := nG hg b0; replace b0 := kB b0 hb; have u7 := nL hg b6; have k7 := nG hg b6; replace b6 := kB b6 hb; clear hb hg; have L8 := nn k4; have L9 := nn k5; have M0 := nn k6; have M1 := nn k7; have B3 := y5 e2) | ((with_reducible refine gC 16 ?_); refine gL 50 Try.func16 #[] ?_; (with_reducible refine (F9.calls k  true _ H4.out).mono ?_); rintro e W2 ⟨rfl, hb⟩; refine ⟨_, rfl, ?_⟩; replace a7 := vB a7 hb; replace a8 := vB a8 hb; replace b1 := vB b1 hb; replace b2 := vB b2 hb; replace b4 := vB b4 hb; replace b5 := vB b5 hb; replace b7 := vB b7 hb; replace b8 := vB b8 hb; replace a0 := kB a0 hb; replace a6 := kB a6 hb; replace b0 := kB b0 hb; replace b6 := kB b6 hb; replace e2 := am (q0c (g := y9) (o := .cells #[.string (⟨#[]⟩ : ByteArray), .string (⟨#[]⟩ : ByteArray), .slice none 0 0, .int .i64 0, .slice none 0 0] 27 (0, 0)) (pP e2.out) hb); replace HB := bS HB hb; (try clear hb); have B4 := y5 a6; have B5 := y5 e2) | (go_at_call 12; have _t := r7; clear _t r7; (refine (Ft.calls k g3 g4 _ _ e3 g5 _ _ e4 (⟨#[]⟩ : ByteArray) (⟨#[]⟩ : ByteArray) _ _ ([] : List (S49)) 0 _ _ ([] : List (S51)) true _ ?side1 ?side2 ?side3 ?side4 ?side5 ?side6 ?side7 ?side8 H5.out).mono ?_); (case side1 => exact pC ((Kd.V_reads' b1.out).2.2)); (case side2 => exact (Kd.V_reads' b1.out).2.1); (case side3 => exact pC ((Kd.V_reads' b2.out).2.2)); (case side4 => exact (Kd.V_reads' b2.out).2.1); (case side5 => exact Kd.C_nil _ _); (case side6 => exact Nat.le_refl _); (case side7 => exact Kd.C_nil _ _); (case side8 => exact Nat.le_refl _); rintro e W3 ⟨rfl, hb⟩; replace a7 := vB a7 hb; replace a8 := vB a8 hb; replace b1 := vB b1 hb; replace b2 := vB b2 hb; replace b4 := vB b4 hb; replace b5 := vB b5 hb; replace b7 := vB b7 hb; replace b8 := vB b8 hb; replace a0 := kB a0 hb; replace a6 := kB a6 hb; replace b0 := kB b0 hb; replace b6 := kB b6 hb; replace e2 := kB e2 hb; replace HB := bS HB hb; (try clear hb); have B6 := y5 b0; have B7 := y5 e2) | (go_at_call 12; have _t := r8; clear _t r8; (refine (Ft.calls k h3 h4 _ _ h5 h6 _ _ h7 (⟨#[]⟩ : ByteArray) (⟨#[]⟩ : ByteArray) _ _ ([] : List (S49)) 0 _ _ ([] : List (S51)) true _ ?side1 ?side2 ?side3 ?side4 ?side5 ?side6 ?side7 ?side8 H6.out).mono ?_); (case side1 => exact pC ((Kd.V_reads' b4.out).2.2)); (case side2 => exact (Kd.V_reads' b4.out).2.1); (case side3 => exact pC ((Kd.V_reads' b5.out).2.2)); (case side4 => exact (Kd.V_reads' b5.out).2.1); (case side5 => exact Kd.C_nil _ _); (case side6 => exact Nat.le_refl _); (case side7 => exact Kd.C_nil _ _); (case side8 => exact Nat.le_refl _); rintro e W4 ⟨rfl, hb⟩; replace a7 := vB a7 hb; replace a8 := vB a8 hb; replace b1 := vB b1 hb; replace b2 := vB b2 hb; replace b4 := vB b4 hb; replace b5 := vB b5 hb; replace b7 := vB b7 hb; replace b8 := vB b8 hb; replace a0 := kB a0 hb; replace a6 := kB a6 hb; replace b0 := kB b0 hb; replace b6 := kB b6 hb; replace e2 := kB e2 hb; replace HB := bS HB hb; (try clear hb); have B8 := y5 b6; have B9 := y5 e2) | (go_at_call 12; have _t := r9; clear _t r9; (refine (Ft.calls k i4 i5 _ _ i6 i7 _ _ i8 (⟨#[]⟩ : ByteArray) (⟨#[]⟩ : ByteArray) _ _ ([] : List (S49)) 0 _ _ ([] : List (S51)) M6 _ ?side1 ?side2 ?side3 ?side4 ?side5 ?side6 ?side7 ?side8 H7.out).mono ?_); (case side1 => exact pC ((Kd.V_reads' b7.out).2.2)); (case side2 => exact (Kd.V_reads' b7.out).2.1); (case side3 => exact pC ((Kd.V_reads' b8.out).2.2)); (case side4 => exact (Kd.V_reads' b8.out).2.1); (case side5 => exact Kd.C_nil _ _); (case side6 => exact Nat.le_refl _); (case side7 => exact Kd.C_nil _ _); (case side8 => exact Nat.le_refl _); rintro e W5 ⟨rfl, hb⟩; replace a7 := vB a7 hb; replace a8 := vB a8 hb; replace b1 := vB b1 hb; replace b2 := vB b2 hb; replace b4 := vB b4 hb; replace b5 := vB b5 hb; replace b7 := vB b7 hb; replace b8 := vB b8 hb; replace a0 := kB a0 hb; replace a6 := kB a6 hb; replace b0 := kB b0 hb; replace b6 := kB b6 hb; replace e2 := kB e2 hb; replace HB := bS HB hb; (try clear hb)))
       go_ret
       exact ⟨er, pB HB.out⟩
      replace o8 := Bool.eq_false_iff.mpr o8
      subst o8
      rw [if_neg (show ¬ (false = true) by decide)] at H
      try dsimp only at H
      exact absurd H (by simp)
     replace o7 := Bool.eq_false_iff.mpr o7
     subst o7
     rw [if_neg (show ¬ (false = true) by decide)] at H
     try dsimp only at H
     exact absurd H (by simp)
    rw [if_neg o6] at H
    exact absurd H (by simp)
   rw [if_neg o5] at H
   exact absurd H (by simp)
  rw [if_neg o4] at H
  exact absurd H (by simp)
 replace o3 := Bool.eq_false_iff.mpr o3
 subst o3
 rw [if_neg (show ¬ (false = true) by decide)] at H
 try dsimp only at H
 exact absurd H (by simp)
end Go.Proofs.Ytabmkighhmchmaa.X
namespace Go.Proofs.Ytabmkighhmchmaa.X
open Go.RowKit Go.YW.PrintWords
def F8.Pure : Prop := ∀ (x0 : S27) (a1 : Int) (a2 : Int) (a3 : ByteArray), (x0.f0.size ≤ maxLen ∧ ((x0.f1.f0.size ≤ maxLen ∧ (x0.f1.f1.length ≤ maxLen ∧ ∀ a_ ∈ x0.f1.f1, ((a_.f0.length ≤ maxLen ∧ ∀ b_ ∈ a_.f0, (Lit.int .i64 b_).wf = true) ∧ (Lit.int .i64 a_.f1).wf = true ∧ (Lit.int .i64 a_.f2).wf = true ∧ (Lit.int .i64 a_.f3).wf = true)))) ∧ (Lit.int .i64 x0.f2).wf = true ∧ (x0.f3.length ≤ maxLen ∧ ∀ a_ ∈ x0.f3, ((Lit.int .i64 a_.f0).wf = true ∧ (Lit.int .i64 a_.f1).wf = true ∧ (Lit.int .i64 a_.f2).wf = true ∧ (Lit.int .i64 a_.f3).wf = true ∧ a_.f4.size ≤ maxLen))) → (Lit.int .i64 a1).wf = true → (Lit.int .i64 a2).wf = true → a3.size ≤ 140737488351232 → ∃ k, F8.f k x0.f0 x0.f1.f0 x0.f1.f1 x0.f2 x0.f3 a1 a2 a3 = some true
end Go.Proofs.Ytabmkighhmchmaa.X
namespace Go.Proofs.Ytabmkighhmchmaa.Pure
open Go.RowKit Go.Proofs.Ytabmkighhmchmaa.X Go.YW.PrintWords Go.YW.PrintLast
theorem q2t (xs : List S51) (i : Nat) (h : i < xs.length) : q0a xs (i : Int) = xs[i] := by
 simp [q0a, List.getD_eq_getElem?_getD, List.getElem?_eq_getElem h]
theorem rd49_nat (ts : List S49) (i : Nat) (h : i < ts.length) : q0d ts (i : Int) = ts[i] := by
 simp [q0d, List.getD_eq_getElem?_getD, List.getElem?_eq_getElem h]
theorem q2d (i : Nat) (h : i ≤ 1000000) : wrap64 ((i : Int) + 1) = ((i + 1 : Nat) : Int) := by unfold wrap64; omega
def hasB (c : Int) (xs : List S51) : Bool := xs.any fun s => decide (s.f0 = c)
theorem has_l0 (c : Int) (xs : List S51) (hl : xs.length ≤ 1000) : ∀ m i k : Nat, i + m = xs.length → m < k → Fi.l0 k c xs (xs.length : Int) (i : Int) = some (hasB c (xs.drop i)) := by
 intro m
 induction m with
 | zero =>
  intro i k hi hk
  obtain ⟨k, rfl⟩ : ∃ q, k = q + 1 := ⟨k - 1, by omega⟩
  rw [Fi.l0, if_neg (by omega), List.drop_eq_nil_of_le (by omega)]
  rfl
 | succ m ih =>
  intro i k hi hk
  obtain ⟨k, rfl⟩ : ∃ q, k = q + 1 := ⟨k - 1, by omega⟩
  rw [Fi.l0, if_pos (by omega), if_pos (by omega), if_pos (by omega), q2t xs i (by omega), List.drop_eq_getElem_cons (show i < xs.length by omega)]
  unfold hasB
  rw [List.any_cons]
  by_cases h : xs[i].f0 = c
  ·
   rw [if_pos h, decide_eq_true h, Bool.true_or]
  rw [if_neg h, decide_eq_false h, Bool.false_or, q2d i (by omega), ih (i + 1) k (by omega) (by omega)]
  rfl
theorem has_f (k : Nat) (ky nm : ByteArray) (ts : List S49) (is : Int) (xs : List S51) (c : Int) (hl : xs.length ≤ 1000) (hk : xs.length < k) : Fi.f k ky nm ts is xs c = some (hasB c xs) := by
 have h := has_l0 c xs hl xs.length 0 k (by omega) hk
 rw [List.drop_zero] at h
 exact h
theorem with_l0 (a0 : Nat) (s : S51) (ky nm : ByteArray) (ts : List S49) (is : Int) (xs : List S51) (hl : xs.length ≤ 1000) : ∀ (m i k : Nat) (a1 : List S51), i + m = xs.length → m < k → a1.length = i →
  Fo.l0 k (a0 : Int) xs (xs.length : Int) (i : Int) s.f0 s.f1 s.f2 s.f3 s.f4 ky nm ts is a1 = some (ky, nm, ts, is, a1 ++ (xs.set a0 s).drop i) := by
 intro m
 induction m with
 | zero =>
  intro i k a1 hi hk ha
  obtain ⟨k, rfl⟩ : ∃ q, k = q + 1 := ⟨k - 1, by omega⟩
  rw [Fo.l0, if_neg (by omega), List.drop_eq_nil_of_le (by rw [List.length_set]; omega), List.append_nil]
 | succ m ih =>
  intro i k a1 hi hk ha
  obtain ⟨k, rfl⟩ : ∃ q, k = q + 1 := ⟨k - 1, by omega⟩
  have hd : (xs.set a0 s).drop i = (if a0 = i then s else xs[i]) :: (xs.set a0 s).drop (i + 1) := by
   rw [List.drop_eq_getElem_cons (show i < (xs.set a0 s).length by rw [List.length_set]; omega), List.getElem_set]
  rw [Fo.l0, if_pos (by omega), if_pos (by omega), if_pos (by omega), q2t xs i (by omega), q2d i (by omega), hd]
  by_cases h : a0 = i
  ·
   rw [if_pos (by omega), if_pos (by omega), ih (i + 1) k _ (by omega) (by omega) (by simp; omega), if_pos h]
   simp
  rw [if_neg (by omega), if_pos (by omega), ih (i + 1) k _ (by omega) (by omega) (by simp; omega), if_neg h]
  simp
theorem with_f (k : Nat) (ky nm : ByteArray) (ts : List S49) (is : Int) (xs : List S51) (a0 : Nat) (s : S51) (hl : xs.length ≤ 1000) (hk : xs.length < k) :
  Fo.f k ky nm ts is xs (a0 : Int) s.f0 s.f1 s.f2 s.f3 s.f4 = some (ky, nm, ts, is, xs.set a0 s) := by
 have h := with_l0 a0 s ky nm ts is xs hl xs.length 0 k [] (by omega) hk rfl
 simpa [Fo.f] using h
def q3h (ts : List S49) (xs : List S51) (i : Nat) : Bool := (q0d ts (i : Int)).f0.all fun x => decide ((q0a xs x).f0 = 3)
def Wf (ts : List S49) (n : Nat) : Prop := ts.length = n ∧ n ≤ 10 ∧ ∀ i : Nat, i < n → (q0d ts (i : Int)).f0.length ≤ 10 ∧ ∀ x ∈ (q0d ts (i : Int)).f0, 0 ≤ x ∧ x < (n : Int)
theorem rdI_nat (l : List Int) (i : Nat) (h : i < l.length) : rd l (i : Int) = l[i] := by simp [rd, List.getD_eq_getElem?_getD, List.getElem?_eq_getElem h]
theorem isready_l0 (l : List Int) (ky nm : ByteArray) (ts : List S49) (is : Int) (xs : List S51) (hl : l.length ≤ 1000) (hx : ∀ x ∈ l, 0 ≤ x ∧ x < (xs.length : Int)) : ∀ m i k : Nat, i + m = l.length → m < k →
  Fm.l0 k l (l.length : Int) (i : Int) ky nm ts is xs = some ((l.drop i).all fun x => decide ((q0a xs x).f0 = 3)) := by
 intro m
 induction m with
 | zero =>
  intro i k hi hk
  obtain ⟨k, rfl⟩ : ∃ q, k = q + 1 := ⟨k - 1, by omega⟩
  rw [Fm.l0, if_neg (by omega), List.drop_eq_nil_of_le (by omega)]
  rfl
 | succ m ih =>
  intro i k hi hk
  obtain ⟨k, rfl⟩ : ∃ q, k = q + 1 := ⟨k - 1, by omega⟩
  have hb := hx l[i] (List.getElem_mem _)
  rw [Fm.l0, if_pos (by omega), if_pos (by omega), if_pos (by omega), rdI_nat l i (by omega), if_pos hb.1, if_pos hb.2, List.drop_eq_getElem_cons (show i < l.length by omega), List.all_cons]
  by_cases h : (q0a xs l[i]).f0 = 3
  ·
   rw [if_pos h, decide_eq_true h, Bool.true_and, q2d i (by omega), ih (i + 1) k (by omega) (by omega)]
  rw [if_neg h, decide_eq_false h, Bool.false_and]
theorem isready_f (k : Nat) (ky nm : ByteArray) (ts : List S49) (is : Int) (xs : List S51) (h : Wf ts xs.length) (i : Nat) (hi : i < xs.length) (hk : 20 ≤ k) : Fm.f k ky nm ts is xs (i : Int) = some (q3h ts xs i) := by
 obtain ⟨h1, h2, h3⟩ := h
 obtain ⟨h4, h5⟩ := h3 i hi
 unfold Fm.f
 rw [if_pos (by omega), if_pos (by omega)]
 have h6 := isready_l0 (q0d ts (i : Int)).f0 ky nm ts is xs (by omega) h5 (q0d ts (i : Int)).f0.length 0 k (by omega) (by omega)
 rw [List.drop_zero] at h6
 exact h6
theorem anyO_open (xs : List S51) : ∀ l : List Int, (∀ x ∈ l, 0 ≤ x ∧ x < (xs.length : Int)) → anyO (openO xs) l = some (!(l.all fun x => decide ((q0a xs x).f0 = 3)))
 | [], _ => rfl
 | x :: l, h => by
  have hb := h x (List.mem_cons_self ..)
  rw [anyO, openO, if_pos hb, Option.bind_some, List.all_cons, anyO_open xs l (fun y hy => h y (List.mem_cons_of_mem _ hy))]
  by_cases e : (q0a xs x).f0 = 3
  ·
   rw [decide_eq_true e, Bool.true_and, if_neg (by simp [e])]
  rw [decide_eq_false e, Bool.false_and, if_pos (by simpa using e)]
  rfl
theorem ready_o (ts : List S49) (xs : List S51) (h : Wf ts xs.length) (i : Nat) (hi : i < xs.length) : readyO ts xs (i : Int) = some (q3h ts xs i) := by
 obtain ⟨h1, h2, h3⟩ := h
 obtain ⟨h4, h5⟩ := h3 i hi
 unfold readyO
 rw [if_pos ⟨by omega, by omega⟩]
 unfold anyF
 rw [if_pos (by omega), anyO_open xs _ h5, Option.bind_some, Bool.not_not]
 rfl
end Go.Proofs.Ytabmkighhmchmaa.Pure
