/- Words and walks for the law RunLeases, joined and made small by a program of mine. -/
import Derived.Test.YtabmkighhmchmaaC2
import Derived.Test.YtabmkighhmchmaaC8
import Derived.Test.YtabmkighhmchmaaC9
import Derived.Test.YtabmkighhmchmaaC5
import Derived.Test.YtabmkighhmchmaaC6
import Derived.Test.YtabmkighhmchmaaC7
import Derived.Test.YtabmkighhmchmaaC3
namespace Go.Proofs.Ytabmkighhmchmaa.X
open Go.RowKit Go.YW.PrintWords Go.YW.PrintLast Go.YW.PrintMore Go.YW.Sq
attribute [local go_sem] q0y q0w q1e q1d q0t q0s q0x q0v
set_option linter.unusedVariables false
set_option linter.unusedSimpArgs false
mutual
def Fb.j0 : Nat → Int → Int → Bool → ByteArray → ByteArray → List (S49) → Int → List (S51) → Option (ByteArray × ByteArray × (List (S49)) × Int × (List (S51)) × Int × Int)
 | 0, _, _, _, _, _, _, _, _ => none
 | k + 1, x1, x2, a5, a1, a2, a3, a4, a0 => if a5 = true then (some ((⟨#[]⟩ : ByteArray), (⟨#[]⟩ : ByteArray), ([] : List (S49)), 0, ([] : List (S51)), 0, 1)) else (Fb.l0 k x1 x2 a0 (a0.length : Int) 0 a1 a2 a3 a4 a0)
def Fb.l0 : Nat → Int → Int → List (S51) → Int → Int → ByteArray → ByteArray → List (S49) → Int → List (S51) → Option (ByteArray × ByteArray × (List (S49)) × Int × (List (S51)) × Int × Int)
 | 0, _, _, _, _, _, _, _, _, _, _ => none
 | k + 1, x1, x2, a6, a7, a5, a1, a2, a3, a4, a0 => if a5 < a7 then (if 0 ≤ a5 then (if a5 < (a6.length : Int) then (if ((q0a a6 a5).f3) = x2 then (some ((⟨#[]⟩ : ByteArray), (⟨#[]⟩ : ByteArray), ([] : List (S49)), 0, ([] : List (S51)), 0, 1)) else (Fb.l0 k x1 x2 a6 a7 (wrap64 (a5 + 1)) a1 a2 a3 a4 a0)) else (none)) else (none)) else (Fb.l1 k x1 x2 a0 (a0.length : Int) 0 a1 a2 a3 a4 a0)
def Fb.l1 : Nat → Int → Int → List (S51) → Int → Int → ByteArray → ByteArray → List (S49) → Int → List (S51) → Option (ByteArray × ByteArray × (List (S49)) × Int × (List (S51)) × Int × Int)
 | 0, _, _, _, _, _, _, _, _, _, _ => none
 | k + 1, x1, x2, a2, a7, a0, a3, a4, a5, a1, a6 => if a0 < a7 then (if 0 ≤ a0 then (if a0 < (a2.length : Int) then (if a1 = 0 then (if ((q0a a2 a0).f0) = 1 then ((Fp.f k x1).bind fun a8 => (Fb.j3 k x1 x2 a0 a2 a7 a0 (decide (((q0a a2 a0).f2) ≤ a8)) a3 a4 a5 a1 a6 ((q0a a2 a0).f0) ((q0a a2 a0).f1) ((q0a a2 a0).f2) ((q0a a2 a0).f3) ((q0a a2 a0).f4))) else (Fb.j3 k x1 x2 a0 a2 a7 a0 false a3 a4 a5 a1 a6 ((q0a a2 a0).f0) ((q0a a2 a0).f1) ((q0a a2 a0).f2) ((q0a a2 a0).f3) ((q0a a2 a0).f4))) else (Fb.j3 k x1 x2 a0 a2 a7 a0 false a3 a4 a5 a1 a6 ((q0a a2 a0).f0) ((q0a a2 a0).f1) ((q0a a2 a0).f2) ((q0a a2 a0).f3) ((q0a a2 a0).f4))) else (none)) else (none)) else (some ((⟨#[]⟩ : ByteArray), (⟨#[]⟩ : ByteArray), ([] : List (S49)), 0, ([] : List (S51)), 0, 192))
def Fb.j3 : Nat → Int → Int → Int → List (S51) → Int → Int → Bool → ByteArray → ByteArray → List (S49) → Int → List (S51) → Int → Int → Int → Int → ByteArray → Option (ByteArray × ByteArray × (List (S49)) × Int × (List (S51)) × Int × Int)
 | 0, _, _, _, _, _, _, _, _, _, _, _, _, _, _, _, _, _ => none
 | k + 1, x1, x2, b2, b3, b4, b5, b6, a3, a4, a0, a5, a6, a7, a8, a9, b0, b1 => if b6 = true then (if 0 ≤ b2 then (if b2 < (a0.length : Int) then ((Fv.f k ((q0d a0 b2).f0) ((q0d a0 b2).f1) ((q0d a0 b2).f2) ((q0d a0 b2).f3) a7 a8 a9 b0 b1 x1 x2).bind fun a1 => ((Fm.f k a3 a4 a0 a5 a6 b2 a1.1 a1.2.1 a1.2.2.1 a1.2.2.2.1 a1.2.2.2.2.1).bind fun a2 => (some (a2.1, a2.2.1, a2.2.2.1, a2.2.2.2.1, a2.2.2.2.2, b2, 0)))) else (none)) else (none)) else (Fb.l1 k x1 x2 b3 b4 (wrap64 (b5 + 1)) a3 a4 a0 a5 a6)
end
def Fb.f (k : Nat) (a3 : ByteArray) (a4 : ByteArray) (a6 : List (S49)) (a5 : Int) (a7 : List (S51)) (a1 : Int) (a2 : Int) : Option (ByteArray × ByteArray × (List (S49)) × Int × (List (S51)) × Int × Int) := (Fj.f k a3 a4 a6 a5 a7 a1).bind fun a0 => (if a2 < 1 then (Fb.j0 k a1 a2 true a0.1 a0.2.1 a0.2.2.1 a0.2.2.2.1 a0.2.2.2.2) else (Fb.j0 k a1 a2 (decide (a2 > 1099511627776)) a0.1 a0.2.1 a0.2.2.1 a0.2.2.2.1 a0.2.2.2.2))
def Fb.T13 : Bool × List (List Nat × List Nat) := (true, [([], []), ([0], [0]), ([1], [1]), ([2], [2]), ([3], [3]), ([4, 3], [3, 4]), ([5, 3], [3, 5]), ([3, 6], [3, 6]), ([7, 3], [7]), ([8], [8]), ([9, 8], [8, 9]), ([8], [8]), ([11, 8, 8], [8, 11]), ([10, 12, 8], [8, 10, 12]), ([8, 13], [8, 13])])
def Fb.B13 : List Nat := [0, 1, 3, 7, 15, 31, 63, 127, 255, 511, 1023, 511, 2559, 8191, 16383]
theorem Fb.tab13 : rtab .any (opsOf Try.f25 13) = Fb.T13 := by kernel_rfl
theorem Fb.bits13 : q3h Fb.T13.2 Fb.B13 = true := by kernel_rfl
def Fb.T14 : Bool × List (List Nat × List Nat) := (true, [([], []), ([0], [0]), ([1], [1]), ([], []), ([2, 3], [2, 3]), ([4], [4]), ([], []), ([], []), ([], []), ([5, 6, 7, 8], [5, 6, 7, 8]), ([9], [9]), ([10], [10]), ([10], [10]), ([], []), ([13, 11, 9, 0, 1, 2, 3, 4, 5, 6, 7, 8, 9, 10, 11, 13], [11, 13]), ([12, 14, 0, 1, 2, 3, 4, 5, 6, 7, 8, 9, 10, 11, 12, 13, 14], [12])])
def Fb.B14 : List Nat := [0, 1, 3, 0, 15, 31, 0, 0, 0, 511, 1023, 2047, 2047, 0, 12287, 32767]
theorem Fb.tab14 : rtab .any (opsOf Try.f25 14) = Fb.T14 := by kernel_rfl
theorem Fb.bits14 : q3h Fb.T14.2 Fb.B14 = true := by kernel_rfl
set_option maxHeartbeats 8000000 in
set_option maxRecDepth 100000 in
theorem Fb.calls (k : Nat) (m6 : ByteArray) (m7 : ByteArray) (b8 : Nat → Prop) (m1 : Option Addr) (m9 : Nat) (i0 : List (S49)) (m8 : Int) (b9 : Nat → Prop) (m2 : Option Addr) (n0 : Nat) (i1 : List (S51)) (a1 : Int) (a2 : Int) (r1 : ByteArray) (r2 : ByteArray) (r3 : List (S49)) (r4 : Int) (r5 : List (S51)) (r6 : Int) (r7 : Int) (w : World) (u3 : Kd.V k49 49 w w.heap.size (fun k_ => b8 k_) (.slice m1 i0.length m9) i0) (u4 : Kd.V k51 51 w w.heap.size (fun k_ => b9 k_) (.slice m2 i1.length n0) i1) (h : Fb.f k m6 m7 i0 m8 i1 a1 a2 = some (r1, r2, r3, r4, r5, r6, r7)) :
  Calls Try.prog 25 #[.agg #[.string m6, .string m7, .slice m1 i0.length m9, .int .i64 m8, .slice m2 i1.length n0], .int .i64 a1, .int .i64 a2] w fun e w' => ∃ L2 D3 : Value, e = .returned (.tuple #[.agg #[.string r1, .string r2, L2, .int .i64 r4, D3], .int .i64 r6, .int .i64 r7]) ∧ Kd.V k49 49 w' w.heap.size (fun k_ => ((b8 k_ ∨ b9 k_) ∨ w.heap.size ≤ k_) ∧ some k_ ≠ (D3 : Value).ownBlock) L2 r3 ∧ Kd.R k51 51 w' w.heap.size (fun k_ => (w.heap.size ≤ k_)) D3 r5 ∧ Below w.heap.size w w' := by
 have M2 := Try.underlying27
 have M4 := Try.underlying51
 have M3 := Try.underlying49
 have g3 := am (show Kd.V k49 49 w w.heap.size (fun k_ => ((b8 k_ ∨ b9 k_) ∨ w.heap.size ≤ k_)) (.slice m1 i0.length m9) i0 from Kd.V_mono u3 (fun k_ hk => .inl (.inl hk)))
 have g4 := am (show Kd.V k51 51 w w.heap.size (fun k_ => ((b8 k_ ∨ b9 k_) ∨ w.heap.size ≤ k_)) (.slice m2 i1.length n0) i1 from Kd.V_mono u4 (fun k_ hk => .inl (.inr hk)))
 have HB := am (Below.refl w.heap.size w)
 unfold Fb.f at h
 have H := h
 clear h
 replace H := Option.bind_eq_some_iff.mp H
 obtain ⟨⟨e4, e5, b7, e2, a6⟩, D6, H⟩ := H
 try dsimp only at H
 have A4 := am D6
 clear D6
 have C4 := am H
 clear H
 go_enter Try.func25, Try.ntmps25
 go_upto_region 2 with (first | ((with_reducible refine gD 3 ?_); refine bz 3 #[.string m6, .string m7, .slice m1 i0.length m9, .int .i64 m8, .slice m2 i1.length n0] 27 HB ?_; clear HB; intro b2 hg w6 hb a5 D8 HB; replace g3 := vE g3 hg hb; replace g4 := vE g4 hg hb; clear hb hg) | ((with_reducible refine gD 6 ?_); refine bz 6 #[.string (⟨#[]⟩ : ByteArray), .string (⟨#[]⟩ : ByteArray), .slice none 0 0, .int .i64 0, .slice none 0 0] 27 HB ?_; clear HB; intro b5 hg w7 hb a9 D9 HB; replace g3 := vE g3 hg hb; replace g4 := vE g4 hg hb; have e6 := nL hg a5; have f8 := nG hg a5; replace a5 := kB a5 hb; clear hb hg; have L6 := nn e6; have h8 := y5 a5) | ((with_reducible refine gC 18 ?_); refine gL 17 Try.func18 #[.agg #[.string m6, .string m7, .slice m1 i0.length m9, .int .i64 m8, .slice m2 i1.length n0], .int .i64 a1] ?_; (with_reducible refine (Fj.calls k m6 m7 (fun k_ => ((((b8 k_ ∨ b9 k_) ∨ w.heap.size ≤ k_) ∧ k_ ≠ b2) ∧ k_ ≠ b5)) _ _ i0 m8 (fun k_ => ((((b8 k_ ∨ b9 k_) ∨ w.heap.size ≤ k_) ∧ k_ ≠ b2) ∧ k_ ≠ b5)) _ _ i1 a1 e4 e5 b7 e2 a6 _ ?side1 ?side2 A4.out).mono ?_); (case side1 => exact g3.out); (case side2 => exact g4.out); rintro e N4 ⟨M8, M9, rfl, u1, n5, hb⟩; refine ⟨_, rfl, ?_⟩; replace g3 := vB g3 hb; replace g4 := vB g4 hb; have m4 := vL (ok' := fun k_ => ((b8 k_ ∨ b9 k_) ∨ w.heap.size ≤ k_) ∧ k_ ≠ b2 ∧ k_ ≠ b5) HB u1 (fun k_ i7 => ⟨Or.elim i7 (fun e0 => Or.elim e0 (fun e0 => e0.1.1) (fun e0 => e0.1.1)) (fun u0 => (.inr (Nat.le_trans (q0m (pB HB.out)) u0))), Or.elim i7 (fun e0 => Or.elim e0 (fun e0 => e0.1.2) (fun e0 => e0.1.2)) (fB a5), Or.elim i7 (fun e0 => Or.elim e0 (fun e0 => e0.2) (fun e0 => e0.2)) (fB a9)⟩); have m5 := vL (ok' := fun k_ => ((b8 k_ ∨ b9 k_) ∨ w.heap.size ≤ k_) ∧ k_ ≠ b2 ∧ k_ ≠ b5) HB n5 (fun k_ i7 => ⟨Or.elim i7 (fun e0 => Or.elim e0 (fun e0 => e0.1.1) (fun e0 => e0.1.1)) (fun u0 => (.inr (Nat.le_trans (q0m (pB HB.out)) u0))), Or.elim i7 (fun e0 => Or.elim e0 (fun e0 => e0.1.2) (fun e0 => e0.1.2)) (fB a5), Or.elim i7 (fun e0 => Or.elim e0 (fun e0 => e0.2) (fun e0 => e0.2)) (fB a9)⟩); replace a5 := kB a5 hb; replace a9 := kB a9 hb; replace HB := bS HB hb; (try clear hb); (try clear u1); (try clear n5); have h7 := y5 a5; obtain ⟨g2, e3, C9⟩ := Kd.V_slice m4.out; subst C9; obtain ⟨i4, d6, D0⟩ := Kd.V_slice m5.out; subst D0))
 (try simp only [Act.put, List.setIfInBounds_toArray, List.set_cons_zero, List.set_cons_succ])
 go_cut [23] (fun M5 wc => ∃ (kq : Nat) (l3 : Bool), M5 = .bool l3 ∧ q0e (Fb.j0 kq a1 a2 l3 e4 e5 b7 e2 a6 = some (r1, r2, r3, r4, r5, r6, r7)) ∧ q0e (kq ≤ k) ∧ q0e (Kd.V k49 49 wc w.heap.size (fun k_ => ((b8 k_ ∨ b9 k_) ∨ w.heap.size ≤ k_) ∧ k_ ≠ b2 ∧ k_ ≠ b5) (.slice g2 b7.length e3) b7) ∧ q0e (Kd.V k51 51 wc w.heap.size (fun k_ => ((b8 k_ ∨ b9 k_) ∨ w.heap.size ≤ k_) ∧ k_ ≠ b2 ∧ k_ ≠ b5) (.slice i4 a6.length d6) a6) ∧ q0e (wc.heap[b2]? = some (.cells #[.string e4, .string e5, (.slice g2 b7.length e3), .int .i64 e2, (.slice i4 a6.length d6)] 27 (0, 0))) ∧ q0e (wc.heap[b5]? = some (.cells #[.string (⟨#[]⟩ : ByteArray), .string (⟨#[]⟩ : ByteArray), (.slice none 0 0), .int .i64 0, (.slice none 0 0)] 27 (0, 0))) ∧ q0e (Below w.heap.size w wc))
 case first =>
  have H := C4.out
  clear C4
  by_cases q4 : a2 < 1
  ·
   rw [if_pos q4] at H
   have i5 := decide_eq_true q4
   clear q4
   (first | rw [i5] | (simp only [q1u, q1v]; rw [i5]) | skip)
   have H' := am H
   clear H
   go_wp2
   go_meet
   case rel => exact ⟨_, (true), el, H', ol, ⟨(pV m4.out)⟩, ⟨(pV m5.out)⟩, ⟨pP a5.out⟩, ⟨pk a9.out⟩, ⟨pB HB.out⟩⟩
  rw [if_neg q4] at H
  have i5 := decide_eq_false q4
  clear q4
  (first | rw [i5] | (simp only [q1u, q1v]; rw [i5]) | skip)
  have H' := am H
  clear H
  go_wp2
  go_meet
  case rel => exact ⟨_, (decide (a2 > 1099511627776)), el, H', ol, ⟨(pV m4.out)⟩, ⟨(pV m5.out)⟩, ⟨pP a5.out⟩, ⟨pk a9.out⟩, ⟨pB HB.out⟩⟩
 case rest =>
  clear C4
  try clear h7
  try clear h8
  obtain ⟨kq, l3, rfl, HA, p7, a0, a4, a5, a9, HB⟩ := hcut
  cases kq with
  | zero => exact absurd HA.out (by simp [Fb.j0])
  | succ L0 =>
   have H := HA.out
   clear HA
   simp only [Fb.j0] at H
   by_cases q5 : l3 = true
   ·
    subst q5
    rw [if_pos rfl] at H
    try dsimp only at H
    simp only [Option.some.injEq, Prod.mk.injEq] at H
    obtain ⟨rfl, rfl, rfl, rfl, rfl, rfl, rfl⟩ := H
    have I1 := nn f8
    have w9 := y5 a9
    go_wp2
    refine bodyPost_ret (q4n rfl _ _ b5 27 #[.string (⟨#[]⟩ : ByteArray), .string (⟨#[]⟩ : ByteArray), .slice none 0 0, .int .i64 0, .slice none 0 0] (0, 0) _ rfl (pP a9.out) Try.underlying27 rfl (by kernel_rfl)) rfl ?_
    exact ⟨_, _, by first | rfl | (simp [q1b, q1a] <;> rfl) | (simp [*, q1b, q1a] <;> rfl), Kd.V_nil _ _ _ _ _, by first | exact Kd.R_nil _ _ _ _ _ | exact Kd.N_nil _ _ _ _ _ | exact Kd.V_nil _ _ _ _ _ | exact Kd.Q_nil _ _ _ _ _ | exact Kd.S_nil _ _ _ _ _, pB HB.out⟩
   replace q5 := Bool.eq_false_iff.mpr q5
   subst q5
   rw [if_neg (show ¬ (false = true) by decide)] at H
   try dsimp only at H
   have H' := am H
   clear H
   have I2 := nn e6
   have j5 := y5 a5
   go_wp2
   go_loopg [28] L0 (fun kq M6 w' => ∃ (e1 : Int) (e7 : ByteArray) (e8 : ByteArray) (e9 : Int), M6 = .int .i64 e1 ∧ q0e (Fb.l0 kq a1 a2 a6 (a6.length : Int) e1 e4 e5 b7 e2 a6 = some (r1, r2, r3, r4, r5, r6, r7)) ∧ q0e (kq ≤ L0) ∧ q0e (Kd.V k51 51 w' w.heap.size (fun k_ => ((b8 k_ ∨ b9 k_) ∨ w.heap.size ≤ k_) ∧ k_ ≠ b2 ∧ k_ ≠ b5) (.slice i4 a6.length d6) a6) ∧ q0e (Kd.V k49 49 w' w.heap.size (fun k_ => ((b8 k_ ∨ b9 k_) ∨ w.heap.size ≤ k_) ∧ k_ ≠ b2 ∧ k_ ≠ b5) (.slice g2 b7.length e3) b7) ∧ q0e (Kd.V k51 51 w' w.heap.size (fun k_ => ((b8 k_ ∨ b9 k_) ∨ w.heap.size ≤ k_) ∧ k_ ≠ b2 ∧ k_ ≠ b5) (.slice i4 a6.length d6) a6) ∧ q0e (w'.heap[b2]? = some (.cells #[.string e4, .string e5, (.slice g2 b7.length e3), .int .i64 e2, (.slice i4 a6.length d6)] 27 (0, 0))) ∧ q0e (w'.heap[b5]? = some (.cells #[.string e7, .string e8, (.slice none 0 0), .int .i64 e9, (.slice none 0 0)] 27 (0, 0))) ∧ q0e (Below w.heap.size w w'))
   case atStart => exact ⟨(0), ((⟨#[]⟩ : ByteArray)), ((⟨#[]⟩ : ByteArray)), (0), el, H', ⟨Nat.le_refl _⟩, ⟨(pV a4.out)⟩, ⟨(pV a0.out)⟩, ⟨(pV a4.out)⟩, ⟨pk a5.out⟩, ⟨pk a9.out⟩, ⟨pB HB.out⟩⟩
   case round =>
    clear H'
    try clear q5
    try clear h7
    try clear j5
    try clear h8
    try clear a5; try clear a9; try clear HB
    obtain ⟨e1, e7, e8, e9, rfl, HA, p8, g5, a0, a4, a5, a9, HB⟩ := hrel
    cases gk with
    | zero => exact absurd HA.out (by simp [Fb.l0])
    | succ k2 =>
     have H := HA.out
     clear HA
     simp only [Fb.l0] at H
     by_cases p9 : e1 < (a6.length : Int)
     ·
      rw [if_pos p9] at H
      have p3 := decide_eq_true p9
      clear p9
      by_cases w2 : 0 ≤ e1
      ·
       rw [if_pos w2] at H
       have E1 := decide_eq_true w2
       clear w2
       by_cases w3 : e1 < (a6.length : Int)
       ·
        rw [if_pos w3] at H
        have E2 := decide_eq_true w3
        clear w3
        by_cases s0 : ((q0a a6 e1).f3) = a2
        ·
         rw [if_pos s0] at H
         obtain ⟨s1, s2⟩ := qt s0
         clear s0
         simp only [Option.some.injEq, Prod.mk.injEq] at H
         obtain ⟨rfl, rfl, rfl, rfl, rfl, rfl, rfl⟩ := H
         have i8 : 0 ≤ (e1 : Int) := od
         have i9 : e1 < (a6.length : Int) := od
         have u2 : 0 < a6.length := by omega
         obtain ⟨r9, q1, n6, n7, n8, n9, o0⟩ := q1j (Kd.V_reads' g5.out).2.2 e1 i8 i9
         cases q1
         replace i8 := eq_true i8
         replace i9 := eq_true i9
         go_wp2_with (first | ((with_reducible refine gD 10 ?_); refine bz 10 #[.int .i64 0, .int .i64 0, .int .i64 0, .int .i64 0, .string (⟨#[]⟩ : ByteArray)] 51 HB ?_; clear HB; intro t2 hg N5 hb m3 q9 HB; replace g5 := vE g5 hg hb; replace a0 := vE a0 hg hb; replace a4 := vE a4 hg hb; have l4 := nL hg a5; have f9 := nG hg a5; replace a5 := kB a5 hb; have l6 := nL hg a9; have g0 := nG hg a9; replace a9 := kB a9 hb; clear hb hg; have I3 := nn f9; have I4 := nn g0; have x0 := y5 m3; have I5 := nn f8; have x2 := y5 a9))
         refine bodyPost_ret (q4n rfl _ _ b5 27 #[.string (⟨#[]⟩ : ByteArray), .string (⟨#[]⟩ : ByteArray), .slice none 0 0, .int .i64 0, .slice none 0 0] (0, 0) _ rfl (pP a9.out) Try.underlying27 rfl (by kernel_rfl)) rfl ?_
         exact ⟨_, _, by first | rfl | (simp [q1b, q1a] <;> rfl) | (simp [*, q1b, q1a] <;> rfl), Kd.V_nil _ _ _ _ _, by first | exact Kd.R_nil _ _ _ _ _ | exact Kd.N_nil _ _ _ _ _ | exact Kd.V_nil _ _ _ _ _ | exact Kd.Q_nil _ _ _ _ _ | exact Kd.S_nil _ _ _ _ _, pB HB.out⟩
        rw [if_neg s0] at H
        obtain ⟨s1, s2⟩ := qf s0
        have H' := am H
        clear H
        have i8 : 0 ≤ (e1 : Int) := od
        have i9 : e1 < (a6.length : Int) := od
        have u2 : 0 < a6.length := by omega
        obtain ⟨r9, q1, n6, n7, n8, n9, o0⟩ := q1j (Kd.V_reads' g5.out).2.2 e1 i8 i9
        cases q1
        replace i8 := eq_true i8
        replace i9 := eq_true i9
        go_wp2_with (first | ((with_reducible refine gD 10 ?_); refine bz 10 #[.int .i64 0, .int .i64 0, .int .i64 0, .int .i64 0, .string (⟨#[]⟩ : ByteArray)] 51 HB ?_; clear HB; intro t2 hg N6 hb m3 q9 HB; replace g5 := vE g5 hg hb; replace a0 := vE a0 hg hb; replace a4 := vE a4 hg hb; have l4 := nL hg a5; have f9 := nG hg a5; replace a5 := kB a5 hb; have l6 := nL hg a9; have g0 := nG hg a9; replace a9 := kB a9 hb; clear hb hg; have I6 := nn f9; have I7 := nn g0; have x3 := y5 m3))
        go_roundg k2
        case measure => have := p7.out; have := p8.out; omega
        case rel => exact ⟨(wrap64 (e1 + 1)), (e7), (e8), (e9), el, H', ⟨by have := p7.out; have := p8.out; omega⟩, (vM g5), (vM a0), (vM a4), ⟨pk a5.out⟩, ⟨pk a9.out⟩, ⟨pB HB.out⟩⟩
       rw [if_neg w3] at H
       exact absurd H (by simp)
      rw [if_neg w2] at H
      exact absurd H (by simp)
     rw [if_neg p9] at H
     have p3 := decide_eq_false p9
     clear p9
     have H' := am H
     clear H
     have I8 := nn e6
     have j6 := y5 a5
     go_wp2
     go_loopg [41] k2 (fun kq M7 w' => ∃ (a3 : Int) (d7 : ByteArray) (d8 : ByteArray) (d9 : Int), M7 = .int .i64 a3 ∧ q0e (Fb.l1 kq a1 a2 a6 (a6.length : Int) a3 e4 e5 b7 e2 a6 = some (r1, r2, r3, r4, r5, r6, r7)) ∧ q0e (kq ≤ k2) ∧ q0e (Kd.V k51 51 w' w.heap.size (fun k_ => ((b8 k_ ∨ b9 k_) ∨ w.heap.size ≤ k_) ∧ k_ ≠ b2 ∧ k_ ≠ b5) (.slice i4 a6.length d6) a6) ∧ q0e (Kd.V k49 49 w' w.heap.size (fun k_ => ((b8 k_ ∨ b9 k_) ∨ w.heap.size ≤ k_) ∧ k_ ≠ b2 ∧ k_ ≠ b5) (.slice g2 b7.length e3) b7) ∧ q0e (Kd.V k51 51 w' w.heap.size (fun k_ => ((b8 k_ ∨ b9 k_) ∨ w.heap.size ≤ k_) ∧ k_ ≠ b2 ∧ k_ ≠ b5) (.slice i4 a6.length d6) a6) ∧ q0e (w'.heap[b2]? = some (.cells #[.string e4, .string e5, (.slice g2 b7.length e3), .int .i64 e2, (.slice i4 a6.length d6)] 27 (0, 0))) ∧ q0e (w'.heap[b5]? = some (.cells #[.string d7, .string d8, (.slice none 0 0), .int .i64 d9, (.slice none 0 0)] 27 (0, 0))) ∧ q0e (Below w.heap.size w w'))
     case atStart => exact ⟨(0), (e7), (e8), (e9), el, H', ⟨Nat.le_refl _⟩, ⟨(pV a4.out)⟩, ⟨(pV a0.out)⟩, ⟨(pV a4.out)⟩, ⟨pk a5.out⟩, ⟨pk a9.out⟩, ⟨pB HB.out⟩⟩
     case round =>
      clear H'
      try clear q5
      try clear p9
      try clear p3
      try clear h7
      try clear j5
      try clear j6
      try clear h8
      try clear a5; try clear a9; try clear HB
      obtain ⟨a3, d7, d8, d9, rfl, HA, r8, b6, a0, a4, a5, a9, HB⟩ := hrel
      cases gk with
      | zero => exact absurd HA.out (by simp [Fb.l1])
      | succ k3 =>
       have H := HA.out
       clear HA
       simp only [Fb.l1] at H
       by_cases q0 : a3 < (a6.length : Int)
       ·
        rw [if_pos q0] at H
        have p4 := decide_eq_true q0
        clear q0
        by_cases s3 : 0 ≤ a3
        ·
         rw [if_pos s3] at H
         have s4 := decide_eq_true s3
         clear s3
         by_cases s5 : a3 < (a6.length : Int)
         ·
          rw [if_pos s5] at H
          have s6 := decide_eq_true s5
          clear s5
          have p6 := am H
          clear H
          have o7 : 0 ≤ (a3 : Int) := od
          have o9 : a3 < (a6.length : Int) := od
          have K8 : 0 < a6.length := by omega
          obtain ⟨d5, C7, o1, o2, o3, o4, o5⟩ := q1j (Kd.V_reads' b6.out).2.2 a3 o7 o9
          cases C7
          replace o7 := eq_true o7
          replace o9 := eq_true o9
          go_upto_region 13 with (first | ((with_reducible refine gD 12 ?_); refine bz 12 #[.int .i64 0, .int .i64 0, .int .i64 0, .int .i64 0, .string (⟨#[]⟩ : ByteArray)] 51 HB ?_; clear HB; intro b3 hg D5 hb a8 E0 HB; replace b6 := vE b6 hg hb; replace a0 := vE a0 hg hb; replace a4 := vE a4 hg hb; have l5 := nL hg a5; have l8 := nG hg a5; replace a5 := kB a5 hb; have l7 := nL hg a9; have l9 := nG hg a9; replace a9 := kB a9 hb; clear hb hg; have I9 := nn l8; have K0 := nn l9; have n4 := y5 a8))
          (try simp only [Act.put, List.setIfInBounds_toArray, List.set_cons_zero, List.set_cons_succ])
          go_cut [60] (fun N1 wc => ∃ (kq : Nat) (i3 : Bool), N1 = .bool i3 ∧ q0e (Fb.j3 kq a1 a2 a3 a6 (a6.length : Int) a3 i3 e4 e5 b7 e2 a6 ((q0a a6 a3).f0) ((q0a a6 a3).f1) ((q0a a6 a3).f2) ((q0a a6 a3).f3) ((q0a a6 a3).f4) = some (r1, r2, r3, r4, r5, r6, r7)) ∧ q0e (kq ≤ k3) ∧ q0e (Kd.V k51 51 wc w.heap.size (fun k_ => ((b8 k_ ∨ b9 k_) ∨ w.heap.size ≤ k_) ∧ k_ ≠ b2 ∧ k_ ≠ b5 ∧ k_ ≠ b3) (.slice (some d5) a6.length d6) a6) ∧ q0e (Kd.V k49 49 wc w.heap.size (fun k_ => ((b8 k_ ∨ b9 k_) ∨ w.heap.size ≤ k_) ∧ k_ ≠ b2 ∧ k_ ≠ b5 ∧ k_ ≠ b3) (.slice g2 b7.length e3) b7) ∧ q0e (Kd.V k51 51 wc w.heap.size (fun k_ => ((b8 k_ ∨ b9 k_) ∨ w.heap.size ≤ k_) ∧ k_ ≠ b2 ∧ k_ ≠ b5 ∧ k_ ≠ b3) (.slice (some d5) a6.length d6) a6) ∧ q0e (wc.heap[b2]? = some (.cells #[.string e4, .string e5, (.slice g2 b7.length e3), .int .i64 e2, (.slice (some d5) a6.length d6)] 27 (0, 0))) ∧ q0e (wc.heap[b5]? = some (.cells #[.string d7, .string d8, (.slice none 0 0), .int .i64 d9, (.slice none 0 0)] 27 (0, 0))) ∧ q0e (wc.heap[b3]? = some (.cells #[.int .i64 ((q0a a6 a3).f0), .int .i64 ((q0a a6 a3).f1), .int .i64 ((q0a a6 a3).f2), .int .i64 ((q0a a6 a3).f3), .string ((q0a a6 a3).f4)] 51 (0, 0))) ∧ q0e (Below w.heap.size w wc))
          case first =>
           have H := p6.out
           clear p6
           by_cases s7 : e2 = 0
           ·
            rw [if_pos s7] at H
            obtain ⟨i6, s8⟩ := qt s7
            clear s7
            (first | rw [i6] | (simp only [q1u, q1v]; rw [i6]) | skip)
            by_cases s9 : ((q0a a6 a3).f0) = 1
            ·
             rw [if_pos s9] at H
             obtain ⟨t0, t1⟩ := qt s9
             clear s9
             replace H := Option.bind_eq_some_iff.mp H
             obtain ⟨v4, q6, H⟩ := H
             try dsimp only at H
             have L3 := am q6
             clear q6
             have H' := am H
             clear H
             try go_wp2
             obtain ⟨w47, hw⟩ : ∃ x, x = (((((D5.setCell ⟨b3, 0, none⟩ (.int .i64 ((q0a a6 a3).f0))).setCell ⟨b3, 1, none⟩ (.int .i64 ((q0a a6 a3).f1))).setCell ⟨b3, 2, none⟩ (.int .i64 ((q0a a6 a3).f2))).setCell ⟨b3, 3, none⟩ (.int .i64 ((q0a a6 a3).f3))).setCell ⟨b3, 4, none⟩ (.string ((q0a a6 a3).f4))) := ⟨_, rfl⟩
             have k4 := vW (ok' := fun k_ => ((b8 k_ ∨ b9 k_) ∨ w.heap.size ≤ k_) ∧ k_ ≠ b2 ∧ k_ ≠ b5 ∧ k_ ≠ b3) hw b6
             have k5 := vW (ok' := fun k_ => ((b8 k_ ∨ b9 k_) ∨ w.heap.size ≤ k_) ∧ k_ ≠ b2 ∧ k_ ≠ b5 ∧ k_ ≠ b3) hw a0
             have k6 := vW (ok' := fun k_ => ((b8 k_ ∨ b9 k_) ∨ w.heap.size ≤ k_) ∧ k_ ≠ b2 ∧ k_ ≠ b5 ∧ k_ ≠ b3) hw a4
             have k7 := kW hw a5
             have k8 := kW hw a9
             have k9 := pW (cs' := #[.int .i64 ((q0a a6 a3).f0), .int .i64 ((q0a a6 a3).f1), .int .i64 ((q0a a6 a3).f2), .int .i64 ((q0a a6 a3).f3), .string ((q0a a6 a3).f4)]) hw a8
             have l2 := bW hw HB
             (try clear b6)
             (try clear a0)
             (try clear a4)
             (try clear a5)
             (try clear a9)
             (try clear a8)
             (try clear HB)
             rw [← hw]
             clear hw
             have b6 := k4
             have a0 := k5
             have a4 := k6
             have a5 := k7
             have a9 := k8
             have a8 := k9
             have HB := l2
             clear k4 k5 k6 k7 k8 k9 l2
             replace b6 := am (Kd.V_drew b6.out)
             replace a0 := am (Kd.V_drew a0.out)
             replace a4 := am (Kd.V_drew a4.out)
             replace a5 := am (q0g a5.out)
             replace a9 := am (q0g a9.out)
             replace a8 := am (q0g a8.out)
             replace HB := am (q0b HB.out)
             refine q2a (n := 15) (S := fun w' => w'.cell? ⟨b2, 0, none⟩ = some (.string e4) ∧ w'.cell? ⟨b2, 1, none⟩ = some (.string e5) ∧ w'.cell? ⟨b2, 2, none⟩ = some (.slice g2 b7.length e3) ∧ w'.cell? ⟨b2, 3, none⟩ = some (.int .i64 e2) ∧ w'.cell? ⟨b2, 4, none⟩ = some (.slice (some d5) a6.length d6) ∧ w'.cell? ⟨b3, 0, none⟩ = some (.int .i64 ((q0a a6 a3).f0)) ∧ w'.cell? ⟨b3, 1, none⟩ = some (.int .i64 ((q0a a6 a3).f1)) ∧ w'.cell? ⟨b3, 2, none⟩ = some (.int .i64 ((q0a a6 a3).f2)) ∧ w'.cell? ⟨b3, 3, none⟩ = some (.int .i64 ((q0a a6 a3).f3)) ∧ w'.cell? ⟨b3, 4, none⟩ = some (.string ((q0a a6 a3).f4))) (ds := []) (ba 15 0) (by kernel_rfl) rfl rfl ⟨bc a5.out, bc a5.out, bc a5.out, bc a5.out, bc a5.out, bc a8.out, bc a8.out, bc a8.out, bc a8.out, bc a8.out⟩ (fun b4 => ?_); refine q1x Fb.tab13 Fb.bits13 (fun d2 m0 => ?_)
             generalize w47.drew = N7 at b6 a0 a4 a5 a9 a8 HB b4 ⊢
             refine pu 0 46 (ba 15 1) d2 ?_
             refine tk 1 47 (ba 15 3) d2 m0 b4 ?_
             refine pu 2 48 (ba 15 7) d2 ?_
             refine pu 3 49 (ba 15 15) d2 ?_
             refine pu 4 50 (ba 15 31) d2 ?_
             refine tk 5 51 (ba 15 63) d2 m0 b4 ?_
             refine pu 6 52 (ba 15 127) d2 ?_
             refine pu 7 53 (ba 15 255) d2 ?_
             refine pu 8 54 (ba 15 511) d2 ?_
             refine pu 9 55 (ba 15 1023) d2 ?_
             refine pu 11 57 (ba 15 3071) d2 ?_
             refine tk 10 56 (ba 15 4095) d2 m0 b4 ?_
             refine one_ (i := 12) (N := some 58) (ba 15 8191) rfl rfl (q3g d2.out (by kernel_rfl)) (by decide) (fun K hK => ?_)
             refine q1r Try.func65 (by kernel_rfl) rfl #[.int .i64 a1] (by rfl) rfl rfl (by (try simp only [List.map_toArray, List.map_cons, List.map_nil]); first | done | rfl | (simp only [List.length_drop, List.length_take]; rfl)) ?_
             with_reducible refine (Fp.calls k3 a1 v4 _ L3.out).mono ?_
             rintro e w' ⟨rfl, ⟨nd, rfl⟩⟩
             refine ⟨_, rfl, ?_⟩
             refine hK.out _ _ ⟨bc a5.out, bc a5.out, bc a5.out, bc a5.out, bc a5.out, bc a8.out, bc a8.out, bc a8.out, bc a8.out, bc a8.out⟩ (fun b4 => ?_)
             clear hK K
             refine nh ?_
             refine pu 13 59 (ba 15 16383) d2 ?_
             refine pu 14 60 (ba 15 32767) d2 ?_
             refine q1w (q2r d2.out (by kernel_rfl)) ?_
             try go_wp2
             go_meet
             case rel => exact ⟨_, (decide (((q0a a6 a3).f2) ≤ v4)), el, H', ⟨by have := p7.out; have := p8.out; have := r8.out; first | omega | exact Nat.le_refl _⟩, ⟨(pV b6.out)⟩, ⟨(pV a0.out)⟩, ⟨(pV a4.out)⟩, ⟨pk a5.out⟩, ⟨pk a9.out⟩, ⟨pk a8.out⟩, ⟨pB HB.out⟩⟩
            rw [if_neg s9] at H
            obtain ⟨t0, t1⟩ := qf s9
            have H' := am H
            clear H
            try go_wp2
            obtain ⟨w49, hw⟩ : ∃ x, x = (((((D5.setCell ⟨b3, 0, none⟩ (.int .i64 ((q0a a6 a3).f0))).setCell ⟨b3, 1, none⟩ (.int .i64 ((q0a a6 a3).f1))).setCell ⟨b3, 2, none⟩ (.int .i64 ((q0a a6 a3).f2))).setCell ⟨b3, 3, none⟩ (.int .i64 ((q0a a6 a3).f3))).setCell ⟨b3, 4, none⟩ (.string ((q0a a6 a3).f4))) := ⟨_, rfl⟩
            have k4 := vW (ok' := fun k_ => ((b8 k_ ∨ b9 k_) ∨ w.heap.size ≤ k_) ∧ k_ ≠ b2 ∧ k_ ≠ b5 ∧ k_ ≠ b3) hw b6
            have k5 := vW (ok' := fun k_ => ((b8 k_ ∨ b9 k_) ∨ w.heap.size ≤ k_) ∧ k_ ≠ b2 ∧ k_ ≠ b5 ∧ k_ ≠ b3) hw a0
            have k6 := vW (ok' := fun k_ => ((b8 k_ ∨ b9 k_) ∨ w.heap.size ≤ k_) ∧ k_ ≠ b2 ∧ k_ ≠ b5 ∧ k_ ≠ b3) hw a4
            have k7 := kW hw a5
            have k8 := kW hw a9
            have k9 := pW (cs' := #[.int .i64 ((q0a a6 a3).f0), .int .i64 ((q0a a6 a3).f1), .int .i64 ((q0a a6 a3).f2), .int .i64 ((q0a a6 a3).f3), .string ((q0a a6 a3).f4)]) hw a8
            have l2 := bW hw HB
            (try clear b6)
            (try clear a0)
            (try clear a4)
            (try clear a5)
            (try clear a9)
            (try clear a8)
            (try clear HB)
            rw [← hw]
            clear hw
            have b6 := k4
            have a0 := k5
            have a4 := k6
            have a5 := k7
            have a9 := k8
            have a8 := k9
            have HB := l2
            clear k4 k5 k6 k7 k8 k9 l2
            replace b6 := am (Kd.V_drew b6.out)
            replace a0 := am (Kd.V_drew a0.out)
            replace a4 := am (Kd.V_drew a4.out)
            replace a5 := am (q0g a5.out)
            replace a9 := am (q0g a9.out)
            replace a8 := am (q0g a8.out)
            replace HB := am (q0b HB.out)
            refine q2a (n := 15) (S := fun w' => w'.cell? ⟨b2, 0, none⟩ = some (.string e4) ∧ w'.cell? ⟨b2, 1, none⟩ = some (.string e5) ∧ w'.cell? ⟨b2, 2, none⟩ = some (.slice g2 b7.length e3) ∧ w'.cell? ⟨b2, 3, none⟩ = some (.int .i64 e2) ∧ w'.cell? ⟨b2, 4, none⟩ = some (.slice (some d5) a6.length d6) ∧ w'.cell? ⟨b3, 0, none⟩ = some (.int .i64 ((q0a a6 a3).f0)) ∧ w'.cell? ⟨b3, 1, none⟩ = some (.int .i64 ((q0a a6 a3).f1)) ∧ w'.cell? ⟨b3, 2, none⟩ = some (.int .i64 ((q0a a6 a3).f2)) ∧ w'.cell? ⟨b3, 3, none⟩ = some (.int .i64 ((q0a a6 a3).f3)) ∧ w'.cell? ⟨b3, 4, none⟩ = some (.string ((q0a a6 a3).f4))) (ds := []) (ba 15 0) (by kernel_rfl) rfl rfl ⟨bc a5.out, bc a5.out, bc a5.out, bc a5.out, bc a5.out, bc a8.out, bc a8.out, bc a8.out, bc a8.out, bc a8.out⟩ (fun b4 => ?_); refine q1x Fb.tab13 Fb.bits13 (fun d2 m0 => ?_)
            generalize w49.drew = N8 at b6 a0 a4 a5 a9 a8 HB b4 ⊢
            refine pu 0 46 (ba 15 1) d2 ?_
            refine tk 1 47 (ba 15 3) d2 m0 b4 ?_
            refine pu 2 48 (ba 15 7) d2 ?_
            refine pu 3 49 (ba 15 15) d2 ?_
            refine pu 4 50 (ba 15 31) d2 ?_
            refine tk 5 51 (ba 15 63) d2 m0 b4 ?_
            refine pu 6 52 (ba 15 127) d2 ?_
            refine pu 7 53 (ba 15 255) d2 ?_
            refine pu 8 54 (ba 15 511) d2 ?_
            refine pe 9 55 (ba 15 1023) d2 ?_
            refine pe 10 56 (ba 15 2047) d2 ?_
            refine pe 11 57 (ba 15 4095) d2 ?_
            refine pe 12 58 (ba 15 8191) d2 ?_
            refine pe 13 59 (ba 15 16383) d2 ?_
            refine pu 14 60 (ba 15 32767) d2 ?_
            refine q1w (q2r d2.out (by kernel_rfl)) ?_
            try go_wp2
            go_meet
            case rel => exact ⟨_, (false), el, H', ⟨by have := p7.out; have := p8.out; have := r8.out; first | omega | exact Nat.le_refl _⟩, ⟨(pV b6.out)⟩, ⟨(pV a0.out)⟩, ⟨(pV a4.out)⟩, ⟨pk a5.out⟩, ⟨pk a9.out⟩, ⟨pk a8.out⟩, ⟨pB HB.out⟩⟩
           rw [if_neg s7] at H
           obtain ⟨i6, s8⟩ := qf s7
           (first | rw [i6] | (simp only [q1u, q1v]; rw [i6]) | skip)
           have H' := am H
           clear H
           try go_wp2
           obtain ⟨w51, hw⟩ : ∃ x, x = (((((D5.setCell ⟨b3, 0, none⟩ (.int .i64 ((q0a a6 a3).f0))).setCell ⟨b3, 1, none⟩ (.int .i64 ((q0a a6 a3).f1))).setCell ⟨b3, 2, none⟩ (.int .i64 ((q0a a6 a3).f2))).setCell ⟨b3, 3, none⟩ (.int .i64 ((q0a a6 a3).f3))).setCell ⟨b3, 4, none⟩ (.string ((q0a a6 a3).f4))) := ⟨_, rfl⟩
           have k4 := vW (ok' := fun k_ => ((b8 k_ ∨ b9 k_) ∨ w.heap.size ≤ k_) ∧ k_ ≠ b2 ∧ k_ ≠ b5 ∧ k_ ≠ b3) hw b6
           have k5 := vW (ok' := fun k_ => ((b8 k_ ∨ b9 k_) ∨ w.heap.size ≤ k_) ∧ k_ ≠ b2 ∧ k_ ≠ b5 ∧ k_ ≠ b3) hw a0
           have k6 := vW (ok' := fun k_ => ((b8 k_ ∨ b9 k_) ∨ w.heap.size ≤ k_) ∧ k_ ≠ b2 ∧ k_ ≠ b5 ∧ k_ ≠ b3) hw a4
           have k7 := kW hw a5
           have k8 := kW hw a9
           have k9 := pW (cs' := #[.int .i64 ((q0a a6 a3).f0), .int .i64 ((q0a a6 a3).f1), .int .i64 ((q0a a6 a3).f2), .int .i64 ((q0a a6 a3).f3), .string ((q0a a6 a3).f4)]) hw a8
           have l2 := bW hw HB
           (try clear b6)
           (try clear a0)
           (try clear a4)
           (try clear a5)
           (try clear a9)
           (try clear a8)
           (try clear HB)
           rw [← hw]
           clear hw
           have b6 := k4
           have a0 := k5
           have a4 := k6
           have a5 := k7
           have a9 := k8
           have a8 := k9
           have HB := l2
           clear k4 k5 k6 k7 k8 k9 l2
           replace b6 := am (Kd.V_drew b6.out)
           replace a0 := am (Kd.V_drew a0.out)
           replace a4 := am (Kd.V_drew a4.out)
           replace a5 := am (q0g a5.out)
           replace a9 := am (q0g a9.out)
           replace a8 := am (q0g a8.out)
           replace HB := am (q0b HB.out)
           refine q2a (n := 15) (S := fun w' => w'.cell? ⟨b2, 0, none⟩ = some (.string e4) ∧ w'.cell? ⟨b2, 1, none⟩ = some (.string e5) ∧ w'.cell? ⟨b2, 2, none⟩ = some (.slice g2 b7.length e3) ∧ w'.cell? ⟨b2, 3, none⟩ = some (.int .i64 e2) ∧ w'.cell? ⟨b2, 4, none⟩ = some (.slice (some d5) a6.length d6)) (ds := []) (ba 15 0) (by kernel_rfl) rfl rfl ⟨bc a5.out, bc a5.out, bc a5.out, bc a5.out, bc a5.out⟩ (fun b4 => ?_); refine q1x Fb.tab13 Fb.bits13 (fun d2 m0 => ?_)
           generalize w51.drew = N9 at b6 a0 a4 a5 a9 a8 HB b4 ⊢
           refine pu 0 46 (ba 15 1) d2 ?_
           refine tk 1 47 (ba 15 3) d2 m0 b4 ?_
           refine pu 2 48 (ba 15 7) d2 ?_
           refine pu 3 49 (ba 15 15) d2 ?_
           refine pe 4 50 (ba 15 31) d2 ?_
           refine pe 5 51 (ba 15 63) d2 ?_
           refine pe 6 52 (ba 15 127) d2 ?_
           refine pu 7 53 (ba 15 255) d2 ?_
           refine pu 8 54 (ba 15 511) d2 ?_
           refine pe 9 55 (ba 15 1023) d2 ?_
           refine pe 10 56 (ba 15 2047) d2 ?_
           refine pe 11 57 (ba 15 4095) d2 ?_
           refine pe 12 58 (ba 15 8191) d2 ?_
           refine pe 13 59 (ba 15 16383) d2 ?_
           refine pu 14 60 (ba 15 32767) d2 ?_
           refine q1w (q2r d2.out (by kernel_rfl)) ?_
           try go_wp2
           go_meet
           case rel => exact ⟨_, (false), el, H', ⟨by have := p7.out; have := p8.out; have := r8.out; first | omega | exact Nat.le_refl _⟩, ⟨(pV b6.out)⟩, ⟨(pV a0.out)⟩, ⟨(pV a4.out)⟩, ⟨pk a5.out⟩, ⟨pk a9.out⟩, ⟨pk a8.out⟩, ⟨pB HB.out⟩⟩
          case rest =>
           clear p6
           try clear q0
           try clear p4
           try clear s3
           try clear s4
           try clear s5
           try clear s6
           try clear j6
           try clear n4
           try clear h8
           try clear o1
           try clear o2
           try clear o3
           try clear o4
           try clear o5
           try clear o7
           try clear o9
           obtain ⟨kq, i3, rfl, HA, r0, b6, a0, a4, a5, a9, a8, HB⟩ := hcut
           cases kq with
           | zero => exact absurd HA.out (by simp [Fb.j3])
           | succ o6 =>
            have H := HA.out
            clear HA
            simp only [Fb.j3] at H
            by_cases w4 : i3 = true
            ·
             subst w4
             rw [if_pos rfl] at H
             try dsimp only at H
             by_cases w5 : 0 ≤ a3
             ·
              rw [if_pos w5] at H
              have E3 := decide_eq_true w5
              clear w5
              by_cases w8 : a3 < (b7.length : Int)
              ·
               rw [if_pos w8] at H
               have E4 := decide_eq_true w8
               clear w8
               replace H := Option.bind_eq_some_iff.mp H
               obtain ⟨⟨h0, h2, h3, h4, h5, n3⟩, q7, H⟩ := H
               try dsimp only at H
               have D7 := am q7
               clear q7
               replace H := Option.bind_eq_some_iff.mp H
               obtain ⟨⟨v5, v6, v7, v8, v9⟩, q8, H⟩ := H
               try dsimp only at H
               have L4 := am q8
               clear q8
               simp only [Option.some.injEq, Prod.mk.injEq] at H
               obtain ⟨rfl, rfl, rfl, rfl, rfl, rfl, rfl⟩ := H
               try go_wp2
               replace b6 := am (Kd.V_drew b6.out)
               replace a0 := am (Kd.V_drew a0.out)
               replace a4 := am (Kd.V_drew a4.out)
               replace a5 := am (q0g a5.out)
               replace a9 := am (q0g a9.out)
               replace a8 := am (q0g a8.out)
               replace HB := am (q0b HB.out)
               have o8 : 0 ≤ (a3 : Int) := od
               have p0 : a3 < (b7.length : Int) := od
               have K9 : 0 < b7.length := by omega
               obtain ⟨c8, f5, f6, C8, h9, j9, k0, k1, j8, j7⟩ := q1s (Kd.V_reads' a0.out).2.2 a3 o8 p0
               cases C8
               obtain ⟨E5, q3, q2, n2⟩ := Kd.V_get a0.out z49 a3 o8 (by first | exact p0 | exact of_decide_eq_true (by first | (with_reducible assumption) | assumption) | (have e_ := (Kd.V_reads' a0.out).1; omega))
               obtain ⟨C0, C1, rfl, i2, h6⟩ := k49_openF q2
               have g1 := n2 0 _ rfl
               rw [Nat.add_zero] at g1
               replace g1 := Option.some.inj (g1.symm.trans h9)
               injection g1 with hva_ hvn_ hvc_
               rw [hva_] at h6
               rw [hvc_] at i2
               have c6 := am (show Kd.V (Kd.int .i64) 3 _ w.heap.size _ _ ((q0d b7 a3).f0) from Kd.V_mk i2 h6)
               clear hva_ hvn_ hvc_ h6 i2 n2 q3
               have c7 := am j7
               have j4 := am j8
               clear j7 j8
               replace o8 := eq_true o8
               replace p0 := eq_true p0
               refine q2a (n := 16) (S := fun w' => w'.cell? ⟨b2, 0, none⟩ = some (.string e4) ∧ w'.cell? ⟨b2, 1, none⟩ = some (.string e5) ∧ w'.cell? ⟨b2, 2, none⟩ = some (.slice (some c8) b7.length e3) ∧ w'.cell? ⟨b2, 3, none⟩ = some (.int .i64 e2) ∧ w'.cell? ⟨b2, 4, none⟩ = some (.slice (some d5) a6.length d6) ∧ w'.cell? ⟨b3, 0, none⟩ = some (.int .i64 ((q0a a6 a3).f0)) ∧ w'.cell? ⟨b3, 1, none⟩ = some (.int .i64 ((q0a a6 a3).f1)) ∧ w'.cell? ⟨b3, 2, none⟩ = some (.int .i64 ((q0a a6 a3).f2)) ∧ w'.cell? ⟨b3, 3, none⟩ = some (.int .i64 ((q0a a6 a3).f3)) ∧ w'.cell? ⟨b3, 4, none⟩ = some (.string ((q0a a6 a3).f4)) ∧ w'.cell? (c8.add ((a3).toNat * 4)) = some (.slice f5 ((q0d b7 a3).f0).length f6) ∧ w'.cell? ⟨(c8.add ((a3).toNat * 4)).block, (c8.add ((a3).toNat * 4)).off + 1, none⟩ = some (.int .i64 ((q0d b7 a3).f1)) ∧ w'.cell? ⟨(c8.add ((a3).toNat * 4)).block, (c8.add ((a3).toNat * 4)).off + 2, none⟩ = some (.int .i64 ((q0d b7 a3).f2)) ∧ w'.cell? ⟨(c8.add ((a3).toNat * 4)).block, (c8.add ((a3).toNat * 4)).off + 3, none⟩ = some (.int .i64 ((q0d b7 a3).f3))) (ds := []) (ba 16 0) (by kernel_rfl) rfl rfl ⟨bc a5.out, bc a5.out, bc a5.out, bc a5.out, bc a5.out, bc a8.out, bc a8.out, bc a8.out, bc a8.out, bc a8.out, h9, j9, k0, k1⟩ (fun b4 => ?_); refine q1x Fb.tab14 Fb.bits14 (fun d2 m0 => ?_)
               generalize wc.drew = O0 at b6 a0 a4 a5 a9 a8 HB c6 c7 h9 j9 k0 k1 b4 ⊢
               refine pu 0 62 (ba 16 1) d2 ?_
               refine pu 1 63 (ba 16 3) d2 ?_
               refine pu 3 65 (ba 16 11) d2 ?_
               refine pu 7 69 (ba 16 139) d2 ?_
               refine pu 8 70 (ba 16 395) d2 ?_
               refine tk 2 64 (ba 16 399) d2 m0 b4 ?_
               refine pu 4 66 (ba 16 415) d2 ?_
               refine tk 5 67 (ba 16 447) d2 m0 b4 ?_
               refine tk 6 68 (ba 16 511) d2 m0 b4 ?_
               refine join_ (σ := Nat) 2 (ba 16 16383) (fun s_ => [(71, .tuple #[.agg #[.int .i64 h0, .int .i64 h2, .int .i64 h3, .int .i64 h4, .string h5], .int .i64 n3]), (13, .pointer (some ⟨s_, 0, none⟩)), (61, .tuple #[.agg #[.int .i64 h0, .int .i64 h2, .int .i64 h3, .int .i64 h4, .string h5], .int .i64 n3]), (72, .agg #[.int .i64 h0, .int .i64 h2, .int .i64 h3, .int .i64 h4, .string h5]), (73, .int .i64 n3)]) (fun s_ w' => (w'.cell? ⟨b2, 0, none⟩ = some (.string e4) ∧ w'.cell? ⟨b2, 1, none⟩ = some (.string e5) ∧ w'.cell? ⟨b2, 2, none⟩ = some (.slice (some c8) b7.length e3) ∧ w'.cell? ⟨b2, 3, none⟩ = some (.int .i64 e2) ∧ w'.cell? ⟨b2, 4, none⟩ = some (.slice (some d5) a6.length d6) ∧ w'.cell? ⟨b3, 0, none⟩ = some (.int .i64 ((q0a a6 a3).f0)) ∧ w'.cell? ⟨b3, 1, none⟩ = some (.int .i64 ((q0a a6 a3).f1)) ∧ w'.cell? ⟨b3, 2, none⟩ = some (.int .i64 ((q0a a6 a3).f2)) ∧ w'.cell? ⟨b3, 3, none⟩ = some (.int .i64 ((q0a a6 a3).f3)) ∧ w'.cell? ⟨b3, 4, none⟩ = some (.string ((q0a a6 a3).f4)) ∧ w'.cell? (c8.add ((a3).toNat * 4)) = some (.slice f5 ((q0d b7 a3).f0).length f6) ∧ w'.cell? ⟨(c8.add ((a3).toNat * 4)).block, (c8.add ((a3).toNat * 4)).off + 1, none⟩ = some (.int .i64 ((q0d b7 a3).f1)) ∧ w'.cell? ⟨(c8.add ((a3).toNat * 4)).block, (c8.add ((a3).toNat * 4)).off + 2, none⟩ = some (.int .i64 ((q0d b7 a3).f2)) ∧ w'.cell? ⟨(c8.add ((a3).toNat * 4)).block, (c8.add ((a3).toNat * 4)).off + 3, none⟩ = some (.int .i64 ((q0d b7 a3).f3))) ∧ (Kd.V (Kd.int .i64) 3 w' w.heap.size (fun k_ => ((b8 k_ ∨ b9 k_) ∨ w.heap.size ≤ k_) ∧ k_ ≠ b2 ∧ k_ ≠ b5 ∧ k_ ≠ b3 ∧ k_ ≠ s_) (.slice f5 ((q0d b7 a3).f0).length f6) ((q0d b7 a3).f0)) ∧ (Kd.V k51 51 w' w.heap.size (fun k_ => ((b8 k_ ∨ b9 k_) ∨ w.heap.size ≤ k_) ∧ k_ ≠ b2 ∧ k_ ≠ b5 ∧ k_ ≠ b3 ∧ k_ ≠ s_) (.slice (some d5) a6.length d6) a6) ∧ (Kd.V k49 49 w' w.heap.size (fun k_ => ((b8 k_ ∨ b9 k_) ∨ w.heap.size ≤ k_) ∧ k_ ≠ b2 ∧ k_ ≠ b5 ∧ k_ ≠ b3 ∧ k_ ≠ s_) (.slice (some c8) b7.length e3) b7) ∧ (Kd.V k51 51 w' w.heap.size (fun k_ => ((b8 k_ ∨ b9 k_) ∨ w.heap.size ≤ k_) ∧ k_ ≠ b2 ∧ k_ ≠ b5 ∧ k_ ≠ b3 ∧ k_ ≠ s_) (.slice (some d5) a6.length d6) a6) ∧ (w'.heap[b2]? = some (.cells #[.string e4, .string e5, .slice (some c8) b7.length e3, .int .i64 e2, .slice (some d5) a6.length d6] 27 (0, 0))) ∧ (w'.heap[b5]? = some (.cells #[.string d7, .string d8, .slice none 0 0, .int .i64 d9, .slice none 0 0] 27 (0, 0))) ∧ (w'.heap[b3]? = some (.cells #[.int .i64 ((q0a a6 a3).f0), .int .i64 ((q0a a6 a3).f1), .int .i64 ((q0a a6 a3).f2), .int .i64 ((q0a a6 a3).f3), .string ((q0a a6 a3).f4)] 51 (0, 0))) ∧ (w'.heap[s_]? = some (.cells #[.int .i64 0, .int .i64 0, .int .i64 0, .int .i64 0, .string (⟨#[]⟩ : ByteArray)] 51 (0, 0))) ∧ (w.heap.size ≤ s_) ∧ (w.heap.size ≤ s_) ∧ (b2 ≠ s_) ∧ (s_ ≠ b2) ∧ (b5 ≠ s_) ∧ (s_ ≠ b5) ∧ (b3 ≠ s_) ∧ (s_ ≠ b3) ∧ (Below w.heap.size w w')) ?_ ?_
               rotate_left
               ·
                intro p5
                refine two_ (i := 9) (j := 13) (Ni := some 71) (Nj := some 13) (ba 16 1023) (ba 16 8703) rfl rfl rfl rfl (two_of d2.out (by kernel_rfl)) (by decide) (by decide) (fun K hK => ?_) (fun K hK => ?_)
                ·
                 skip
                 refine q1r Try.func66 (by kernel_rfl) rfl #[.agg #[.slice f5 ((q0d b7 a3).f0).length f6, .int .i64 ((q0d b7 a3).f1), .int .i64 ((q0d b7 a3).f2), .int .i64 ((q0d b7 a3).f3)], .agg #[.int .i64 ((q0a a6 a3).f0), .int .i64 ((q0a a6 a3).f1), .int .i64 ((q0a a6 a3).f2), .int .i64 ((q0a a6 a3).f3), .string ((q0a a6 a3).f4)], .int .i64 a1, .int .i64 a2] (by rfl) rfl rfl (by (try simp only [List.map_toArray, List.map_cons, List.map_nil]); first | done | rfl | (simp only [List.length_drop, List.length_take]; rfl)) ?_
                 with_reducible refine (Fv.calls o6 _ _ ((q0d b7 a3).f0) ((q0d b7 a3).f1) ((q0d b7 a3).f2) ((q0d b7 a3).f3) ((q0a a6 a3).f0) ((q0a a6 a3).f1) ((q0a a6 a3).f2) ((q0a a6 a3).f3) ((q0a a6 a3).f4) a1 a2 h0 h2 h3 h4 h5 n3 _ ?side1 ?side2 D7.out).mono ?_
                 (case side1 => repeat (first | exact (by repeat (first | (with_reducible exact c7.out) | (with_reducible refine Kd.C_alloc ?_ _) | (with_reducible refine Kd.C_drewN ?_ _) | (with_reducible refine Kd.C_drew ?_) | exact c7.out)) | (with_reducible refine Kd.C_alloc ?_ _) | (with_reducible refine Kd.C_drewN ?_ _) | (with_reducible refine Kd.C_drew ?_)))
                 (case side2 => exact j4.out)
                 rintro e N2 ⟨rfl, hb⟩
                 have g6 := (hb.cell (World.block_lt_of_cell? _ _ (b4.2.2.2.2.2.2.2.2.2.2.1))).trans (b4.2.2.2.2.2.2.2.2.2.2.1)
                 have g7 := (hb.cell (World.block_lt_of_cell? _ _ (b4.2.2.2.2.2.2.2.2.2.2.2.1))).trans (b4.2.2.2.2.2.2.2.2.2.2.2.1)
                 have g8 := (hb.cell (World.block_lt_of_cell? _ _ (b4.2.2.2.2.2.2.2.2.2.2.2.2.1))).trans (b4.2.2.2.2.2.2.2.2.2.2.2.2.1)
                 have g9 := (hb.cell (World.block_lt_of_cell? _ _ (b4.2.2.2.2.2.2.2.2.2.2.2.2.2))).trans (b4.2.2.2.2.2.2.2.2.2.2.2.2.2)
                 refine ⟨_, rfl, ?_⟩
                 replace b6 := vB b6 hb
                 replace a0 := vB a0 hb
                 replace a4 := vB a4 hb
                 replace c6 := vB c6 hb
                 replace a5 := kB a5 hb
                 replace a9 := kB a9 hb
                 replace a8 := kB a8 hb
                 replace c7 := am (Kd.C_below (by repeat (first | (with_reducible exact c7.out) | (with_reducible refine Kd.C_alloc ?_ _) | (with_reducible refine Kd.C_drewN ?_ _) | (with_reducible refine Kd.C_drew ?_) | exact c7.out)) hb)
                 replace HB := bS HB hb
                 (try clear hb)
                 (try clear hb2)
                 (try clear hk)
                 (try clear hi)
                 refine hK.out _ _ ⟨bc a5.out, bc a5.out, bc a5.out, bc a5.out, bc a5.out, bc a8.out, bc a8.out, bc a8.out, bc a8.out, bc a8.out, g6, g7, g8, g9⟩ (fun b4 => ?_)
                 clear hK K
                 refine nh ?_
                 refine pu 10 61 (ba 16 2047) d2 ?_
                 refine pu 11 72 (ba 16 4095) d2 ?_
                 refine pu 12 73 (ba 16 8191) d2 ?_
                 refine one_ (i := 13) (N := some 13) (ba 16 16383) rfl rfl (q3g d2.out (by kernel_rfl)) (by decide) (fun K hK => ?_)
                 refine box_step ?hg (N := 13) ?hd (cs := #[.int .i64 0, .int .i64 0, .int .i64 0, .int .i64 0, .string (⟨#[]⟩ : ByteArray)]) (t := 51) ?hr ?_; (case hd => rfl); (case hg => rfl); (case hr => first | (go_simp; done) | (go_simp; rfl))
                 intro a7 hg N3 n1 hb
                 have g6 := (hb.cell (World.block_lt_of_cell? _ _ (b4.2.2.2.2.2.2.2.2.2.2.1))).trans (b4.2.2.2.2.2.2.2.2.2.2.1)
                 have g7 := (hb.cell (World.block_lt_of_cell? _ _ (b4.2.2.2.2.2.2.2.2.2.2.2.1))).trans (b4.2.2.2.2.2.2.2.2.2.2.2.1)
                 have g8 := (hb.cell (World.block_lt_of_cell? _ _ (b4.2.2.2.2.2.2.2.2.2.2.2.2.1))).trans (b4.2.2.2.2.2.2.2.2.2.2.2.2.1)
                 have g9 := (hb.cell (World.block_lt_of_cell? _ _ (b4.2.2.2.2.2.2.2.2.2.2.2.2.2))).trans (b4.2.2.2.2.2.2.2.2.2.2.2.2.2)
                 replace b6 := vE b6 hg hb
                 replace a0 := vE a0 hg hb
                 replace a4 := vE a4 hg hb
                 replace c6 := vE c6 hg hb
                 replace c7 := am (Kd.C_below (by repeat (first | (with_reducible exact c7.out) | (with_reducible refine Kd.C_alloc ?_ _) | (with_reducible refine Kd.C_drewN ?_ _) | (with_reducible refine Kd.C_drew ?_) | exact c7.out)) hb)
                 have d1 := am (n1)
                 have j2 := am (gs hg (pB HB.out))
                 have j1 := am (gs hg (pB HB.out))
                 replace HB := bS HB hb
                 have b0 := nL hg a5
                 have d4 := nG hg a5
                 replace a5 := kB a5 hb
                 have d3 := nL hg a9
                 have c9 := nG hg a9
                 replace a9 := kB a9 hb
                 have b1 := nL hg a8
                 have d0 := nG hg a8
                 replace a8 := kB a8 hb
                 clear hb n1 hg
                 refine hK.out _ _ ⟨bc a5.out, bc a5.out, bc a5.out, bc a5.out, bc a5.out, bc a8.out, bc a8.out, bc a8.out, bc a8.out, bc a8.out, g6, g7, g8, g9⟩ (fun b4 => ?_)
                 clear hK K
                 refine nh ?_
                 exact norm_ (by simp only [putAll, Act.put, List.setIfInBounds_toArray, List.set_cons_zero, List.set_cons_succ]) (p5 (a7) _ ⟨b4, (by exact Kd.V_mono (pV c6.out) (fun _ hk => ⟨hk.1.1, ⟨hk.1.2.1, ⟨hk.1.2.2.1, ⟨hk.1.2.2.2, hk.2⟩⟩⟩⟩)), (by exact Kd.V_mono (pV b6.out) (fun _ hk => ⟨hk.1.1, ⟨hk.1.2.1, ⟨hk.1.2.2.1, ⟨hk.1.2.2.2, hk.2⟩⟩⟩⟩)), (by exact Kd.V_mono (pV a0.out) (fun _ hk => ⟨hk.1.1, ⟨hk.1.2.1, ⟨hk.1.2.2.1, ⟨hk.1.2.2.2, hk.2⟩⟩⟩⟩)), (by exact Kd.V_mono (pV a4.out) (fun _ hk => ⟨hk.1.1, ⟨hk.1.2.1, ⟨hk.1.2.2.1, ⟨hk.1.2.2.2, hk.2⟩⟩⟩⟩)), (pk a5.out), (pk a9.out), (pk a8.out), (pk d1.out), j2.out, j1.out, b0.out, d4.out, d3.out, c9.out, b1.out, d0.out, (pB HB.out)⟩)
                skip
                refine box_step ?hg (N := 13) ?hd (cs := #[.int .i64 0, .int .i64 0, .int .i64 0, .int .i64 0, .string (⟨#[]⟩ : ByteArray)]) (t := 51) ?hr ?_; (case hd => rfl); (case hg => rfl); (case hr => first | (go_simp; done) | (go_simp; rfl))
                intro a7 hg N2 n1 hb
                have g6 := (hb.cell (World.block_lt_of_cell? _ _ (b4.2.2.2.2.2.2.2.2.2.2.1))).trans (b4.2.2.2.2.2.2.2.2.2.2.1)
                have g7 := (hb.cell (World.block_lt_of_cell? _ _ (b4.2.2.2.2.2.2.2.2.2.2.2.1))).trans (b4.2.2.2.2.2.2.2.2.2.2.2.1)
                have g8 := (hb.cell (World.block_lt_of_cell? _ _ (b4.2.2.2.2.2.2.2.2.2.2.2.2.1))).trans (b4.2.2.2.2.2.2.2.2.2.2.2.2.1)
                have g9 := (hb.cell (World.block_lt_of_cell? _ _ (b4.2.2.2.2.2.2.2.2.2.2.2.2.2))).trans (b4.2.2.2.2.2.2.2.2.2.2.2.2.2)
                replace b6 := vE b6 hg hb
                replace a0 := vE a0 hg hb
                replace a4 := vE a4 hg hb
                replace c6 := vE c6 hg hb
                replace c7 := am (Kd.C_below (by repeat (first | (with_reducible exact c7.out) | (with_reducible refine Kd.C_alloc ?_ _) | (with_reducible refine Kd.C_drewN ?_ _) | (with_reducible refine Kd.C_drew ?_) | exact c7.out)) hb)
                have d1 := am (n1)
                have j2 := am (gs hg (pB HB.out))
                have j1 := am (gs hg (pB HB.out))
                replace HB := bS HB hb
                have b0 := nL hg a5
                have d4 := nG hg a5
                replace a5 := kB a5 hb
                have d3 := nL hg a9
                have c9 := nG hg a9
                replace a9 := kB a9 hb
                have b1 := nL hg a8
                have d0 := nG hg a8
                replace a8 := kB a8 hb
                clear hb n1 hg
                refine hK.out _ _ ⟨bc a5.out, bc a5.out, bc a5.out, bc a5.out, bc a5.out, bc a8.out, bc a8.out, bc a8.out, bc a8.out, bc a8.out, g6, g7, g8, g9⟩ (fun b4 => ?_)
                clear hK K
                refine nh ?_
                refine one_ (i := 9) (N := some 71) (ba 16 9215) rfl rfl (q3g d2.out (by kernel_rfl)) (by decide) (fun K hK => ?_)
                refine q1r Try.func66 (by kernel_rfl) rfl #[.agg #[.slice f5 ((q0d b7 a3).f0).length f6, .int .i64 ((q0d b7 a3).f1), .int .i64 ((q0d b7 a3).f2), .int .i64 ((q0d b7 a3).f3)], .agg #[.int .i64 ((q0a a6 a3).f0), .int .i64 ((q0a a6 a3).f1), .int .i64 ((q0a a6 a3).f2), .int .i64 ((q0a a6 a3).f3), .string ((q0a a6 a3).f4)], .int .i64 a1, .int .i64 a2] (by rfl) rfl rfl (by (try simp only [List.map_toArray, List.map_cons, List.map_nil]); first | done | rfl | (simp only [List.length_drop, List.length_take]; rfl)) ?_
                with_reducible refine (Fv.calls o6 _ _ ((q0d b7 a3).f0) ((q0d b7 a3).f1) ((q0d b7 a3).f2) ((q0d b7 a3).f3) ((q0a a6 a3).f0) ((q0a a6 a3).f1) ((q0a a6 a3).f2) ((q0a a6 a3).f3) ((q0a a6 a3).f4) a1 a2 h0 h2 h3 h4 h5 n3 _ ?side1 ?side2 D7.out).mono ?_
                (case side1 => repeat (first | exact (by repeat (first | (with_reducible exact c7.out) | (with_reducible refine Kd.C_alloc ?_ _) | (with_reducible refine Kd.C_drewN ?_ _) | (with_reducible refine Kd.C_drew ?_) | exact c7.out)) | (with_reducible refine Kd.C_alloc ?_ _) | (with_reducible refine Kd.C_drewN ?_ _) | (with_reducible refine Kd.C_drew ?_)))
                (case side2 => exact j4.out)
                rintro e N3 ⟨rfl, hb⟩
                have g6 := (hb.cell (World.block_lt_of_cell? _ _ (b4.2.2.2.2.2.2.2.2.2.2.1))).trans (b4.2.2.2.2.2.2.2.2.2.2.1)
                have g7 := (hb.cell (World.block_lt_of_cell? _ _ (b4.2.2.2.2.2.2.2.2.2.2.2.1))).trans (b4.2.2.2.2.2.2.2.2.2.2.2.1)
                have g8 := (hb.cell (World.block_lt_of_cell? _ _ (b4.2.2.2.2.2.2.2.2.2.2.2.2.1))).trans (b4.2.2.2.2.2.2.2.2.2.2.2.2.1)
                have g9 := (hb.cell (World.block_lt_of_cell? _ _ (b4.2.2.2.2.2.2.2.2.2.2.2.2.2))).trans (b4.2.2.2.2.2.2.2.2.2.2.2.2.2)
                refine ⟨_, rfl, ?_⟩
                replace b6 := vB b6 hb
                replace a0 := vB a0 hb
                replace a4 := vB a4 hb
                replace c6 := vB c6 hb
                replace a5 := kB a5 hb
                replace a9 := kB a9 hb
                replace a8 := kB a8 hb
                replace c7 := am (Kd.C_below (by repeat (first | (with_reducible exact c7.out) | (with_reducible refine Kd.C_alloc ?_ _) | (with_reducible refine Kd.C_drewN ?_ _) | (with_reducible refine Kd.C_drew ?_) | exact c7.out)) hb)
                replace d1 := kB d1 hb
                replace HB := bS HB hb
                (try clear hb)
                (try clear hb2)
                (try clear hk)
                (try clear hi)
                refine hK.out _ _ ⟨bc a5.out, bc a5.out, bc a5.out, bc a5.out, bc a5.out, bc a8.out, bc a8.out, bc a8.out, bc a8.out, bc a8.out, g6, g7, g8, g9⟩ (fun b4 => ?_)
                clear hK K
                refine nh ?_
                refine pu 10 61 (ba 16 10239) d2 ?_
                refine pu 11 72 (ba 16 12287) d2 ?_
                refine pu 12 73 (ba 16 16383) d2 ?_
                exact norm_ (by simp only [putAll, Act.put, List.setIfInBounds_toArray, List.set_cons_zero, List.set_cons_succ]) (p5 (a7) _ ⟨b4, (by exact Kd.V_mono (pV c6.out) (fun _ hk => ⟨hk.1.1, ⟨hk.1.2.1, ⟨hk.1.2.2.1, ⟨hk.1.2.2.2, hk.2⟩⟩⟩⟩)), (by exact Kd.V_mono (pV b6.out) (fun _ hk => ⟨hk.1.1, ⟨hk.1.2.1, ⟨hk.1.2.2.1, ⟨hk.1.2.2.2, hk.2⟩⟩⟩⟩)), (by exact Kd.V_mono (pV a0.out) (fun _ hk => ⟨hk.1.1, ⟨hk.1.2.1, ⟨hk.1.2.2.1, ⟨hk.1.2.2.2, hk.2⟩⟩⟩⟩)), (by exact Kd.V_mono (pV a4.out) (fun _ hk => ⟨hk.1.1, ⟨hk.1.2.1, ⟨hk.1.2.2.1, ⟨hk.1.2.2.2, hk.2⟩⟩⟩⟩)), (pk a5.out), (pk a9.out), (pk a8.out), (pk d1.out), j2.out, j1.out, b0.out, d4.out, d3.out, c9.out, b1.out, d0.out, (pB HB.out)⟩)
               rintro a7 f7 ⟨L5, E6, E7, E8, E9, H0, H1, H2, H3, H4, H5, t3, t4, t5, t6, t7, t8, t9⟩
               have k4 : q0e (Kd.V (Kd.int .i64) 3 f7 w.heap.size (fun k_ => ((b8 k_ ∨ b9 k_) ∨ w.heap.size ≤ k_) ∧ k_ ≠ b2 ∧ k_ ≠ b5 ∧ k_ ≠ b3 ∧ k_ ≠ a7) (.slice f5 ((q0d b7 a3).f0).length f6) ((q0d b7 a3).f0)) := ⟨E6⟩
               have k5 : q0e (Kd.V k51 51 f7 w.heap.size (fun k_ => ((b8 k_ ∨ b9 k_) ∨ w.heap.size ≤ k_) ∧ k_ ≠ b2 ∧ k_ ≠ b5 ∧ k_ ≠ b3 ∧ k_ ≠ a7) (.slice (some d5) a6.length d6) a6) := ⟨E7⟩
               have k6 : q0e (Kd.V k49 49 f7 w.heap.size (fun k_ => ((b8 k_ ∨ b9 k_) ∨ w.heap.size ≤ k_) ∧ k_ ≠ b2 ∧ k_ ≠ b5 ∧ k_ ≠ b3 ∧ k_ ≠ a7) (.slice (some c8) b7.length e3) b7) := ⟨E8⟩
               have k7 : q0e (Kd.V k51 51 f7 w.heap.size (fun k_ => ((b8 k_ ∨ b9 k_) ∨ w.heap.size ≤ k_) ∧ k_ ≠ b2 ∧ k_ ≠ b5 ∧ k_ ≠ b3 ∧ k_ ≠ a7) (.slice (some d5) a6.length d6) a6) := ⟨E9⟩
               have k8 : q0e (f7.heap[b2]? = some (.cells #[.string e4, .string e5, .slice (some c8) b7.length e3, .int .i64 e2, .slice (some d5) a6.length d6] 27 (0, 0))) := ⟨H0⟩
               have k9 : q0e (f7.heap[b5]? = some (.cells #[.string d7, .string d8, .slice none 0 0, .int .i64 d9, .slice none 0 0] 27 (0, 0))) := ⟨H1⟩
               have l2 : q0e (f7.heap[b3]? = some (.cells #[.int .i64 ((q0a a6 a3).f0), .int .i64 ((q0a a6 a3).f1), .int .i64 ((q0a a6 a3).f2), .int .i64 ((q0a a6 a3).f3), .string ((q0a a6 a3).f4)] 51 (0, 0))) := ⟨H2⟩
               have v2 : q0e (f7.heap[a7]? = some (.cells #[.int .i64 0, .int .i64 0, .int .i64 0, .int .i64 0, .string (⟨#[]⟩ : ByteArray)] 51 (0, 0))) := ⟨H3⟩
               have v3 : q0e (w.heap.size ≤ a7) := ⟨H4⟩
               have L1 : q0e (w.heap.size ≤ a7) := ⟨H5⟩
               have u5 : q0e (b2 ≠ a7) := ⟨t3⟩
               have u6 : q0e (a7 ≠ b2) := ⟨t4⟩
               have u7 : q0e (b5 ≠ a7) := ⟨t5⟩
               have u8 : q0e (a7 ≠ b5) := ⟨t6⟩
               have u9 : q0e (b3 ≠ a7) := ⟨t7⟩
               have v0 : q0e (a7 ≠ b3) := ⟨t8⟩
               have v1 : q0e (Below w.heap.size w f7) := ⟨t9⟩
               clear b6 a0 a4 a5 a9 a8 HB E6 E7 E8 E9 H0 H1 H2 H3 H4 H5 t3 t4 t5 t6 t7 t8 t9
               have c6 := k4
               have b6 := k5
               have a0 := k6
               have a4 := k7
               have a5 := k8
               have a9 := k9
               have a8 := l2
               have d1 := v2
               have j2 := v3
               have j1 := L1
               have b0 := u5
               have d4 := u6
               have d3 := u7
               have c9 := u8
               have b1 := u9
               have d0 := v0
               have HB := v1
               clear k4 k5 k6 k7 k8 k9 l2 v2 v3 L1 u5 u6 u7 u8 u9 v0 v1
               have b4 : f7.cell? ⟨b2, 0, none⟩ = some (.string e4) ∧ f7.cell? ⟨b2, 1, none⟩ = some (.string e5) ∧ f7.cell? ⟨b2, 2, none⟩ = some (.slice (some c8) b7.length e3) ∧ f7.cell? ⟨b2, 3, none⟩ = some (.int .i64 e2) ∧ f7.cell? ⟨b2, 4, none⟩ = some (.slice (some d5) a6.length d6) ∧ f7.cell? ⟨b3, 0, none⟩ = some (.int .i64 ((q0a a6 a3).f0)) ∧ f7.cell? ⟨b3, 1, none⟩ = some (.int .i64 ((q0a a6 a3).f1)) ∧ f7.cell? ⟨b3, 2, none⟩ = some (.int .i64 ((q0a a6 a3).f2)) ∧ f7.cell? ⟨b3, 3, none⟩ = some (.int .i64 ((q0a a6 a3).f3)) ∧ f7.cell? ⟨b3, 4, none⟩ = some (.string ((q0a a6 a3).f4)) ∧ f7.cell? (c8.add ((a3).toNat * 4)) = some (.slice f5 ((q0d b7 a3).f0).length f6) ∧ f7.cell? ⟨(c8.add ((a3).toNat * 4)).block, (c8.add ((a3).toNat * 4)).off + 1, none⟩ = some (.int .i64 ((q0d b7 a3).f1)) ∧ f7.cell? ⟨(c8.add ((a3).toNat * 4)).block, (c8.add ((a3).toNat * 4)).off + 2, none⟩ = some (.int .i64 ((q0d b7 a3).f2)) ∧ f7.cell? ⟨(c8.add ((a3).toNat * 4)).block, (c8.add ((a3).toNat * 4)).off + 3, none⟩ = some (.int .i64 ((q0d b7 a3).f3)) := L5
               refine norm_ (a' := ?_) ?_ ?_
               rotate_left
               ·
                simp only [putAll, Act.put, List.setIfInBounds_toArray, List.set_cons_zero, List.set_cons_succ]
                rfl
               refine one_ (i := 14) (N := none) (ba 16 32767) rfl rfl (q3g d2.out (by kernel_rfl)) (by decide) (fun K hK => ?_)
               have L7 : f7.cell? ⟨a7, 0, none⟩ = some (.int .i64 0) := bc d1.out
               have H6 := z1 d1.out
               have A5 := b0.out
               have A6 := d3.out
               have A7 := b1.out
               have x8 := d4.out
               have x9 := c9.out
               have y0 := d0.out
               have L8 : f7.cell? ⟨a7, 1, none⟩ = some (.int .i64 0) := bc d1.out
               have H7 := q0j d1.out 1
               have A8 := b0.out
               have A9 := d3.out
               have B0 := b1.out
               have y6 := d4.out
               have y7 := c9.out
               have y8 := d0.out
               have L9 : f7.cell? ⟨a7, 2, none⟩ = some (.int .i64 0) := bc d1.out
               have H8 := q0j d1.out 2
               have B1 := b0.out
               have B2 := d3.out
               have B3 := b1.out
               have y9 := d4.out
               have z0 := c9.out
               have z6 := d0.out
               have M0 : f7.cell? ⟨a7, 3, none⟩ = some (.int .i64 0) := bc d1.out
               have H9 := q0j d1.out 3
               have B4 := b0.out
               have B5 := d3.out
               have B6 := b1.out
               have z7 := d4.out
               have z8 := c9.out
               have z9 := d0.out
               have M1 : f7.cell? ⟨a7, 4, none⟩ = some (.string (⟨#[]⟩ : ByteArray)) := bc d1.out
               have I0 := q0j d1.out 4
               have B7 := b0.out
               have B8 := d3.out
               have B9 := b1.out
               have A1 := d4.out
               have A2 := c9.out
               have A3 := d0.out
               refine skip_ (w1 := ?_) (by rfl) rfl ?_ ?_
               rotate_left
               ·
                go_simp
                rfl
               refine hK.out _ _ ⟨((cell_far (p := ⟨a7, _, none⟩) b0.out _).trans (((cell_far (p := ⟨a7, _, none⟩) b0.out _).trans (((cell_far (p := ⟨a7, _, none⟩) b0.out _).trans (((cell_far (p := ⟨a7, _, none⟩) b0.out _).trans (((cell_far (p := ⟨a7, _, none⟩) b0.out _).trans (b4.1)))))))))), ((cell_far (p := ⟨a7, _, none⟩) b0.out _).trans (((cell_far (p := ⟨a7, _, none⟩) b0.out _).trans (((cell_far (p := ⟨a7, _, none⟩) b0.out _).trans (((cell_far (p := ⟨a7, _, none⟩) b0.out _).trans (((cell_far (p := ⟨a7, _, none⟩) b0.out _).trans (b4.2.1)))))))))), ((cell_far (p := ⟨a7, _, none⟩) b0.out _).trans (((cell_far (p := ⟨a7, _, none⟩) b0.out _).trans (((cell_far (p := ⟨a7, _, none⟩) b0.out _).trans (((cell_far (p := ⟨a7, _, none⟩) b0.out _).trans (((cell_far (p := ⟨a7, _, none⟩) b0.out _).trans (b4.2.2.1)))))))))), ((cell_far (p := ⟨a7, _, none⟩) b0.out _).trans (((cell_far (p := ⟨a7, _, none⟩) b0.out _).trans (((cell_far (p := ⟨a7, _, none⟩) b0.out _).trans (((cell_far (p := ⟨a7, _, none⟩) b0.out _).trans (((cell_far (p := ⟨a7, _, none⟩) b0.out _).trans (b4.2.2.2.1)))))))))), ((cell_far (p := ⟨a7, _, none⟩) b0.out _).trans (((cell_far (p := ⟨a7, _, none⟩) b0.out _).trans (((cell_far (p := ⟨a7, _, none⟩) b0.out _).trans (((cell_far (p := ⟨a7, _, none⟩) b0.out _).trans (((cell_far (p := ⟨a7, _, none⟩) b0.out _).trans (b4.2.2.2.2.1)))))))))), ((cell_far (p := ⟨a7, _, none⟩) b1.out _).trans (((cell_far (p := ⟨a7, _, none⟩) b1.out _).trans (((cell_far (p := ⟨a7, _, none⟩) b1.out _).trans (((cell_far (p := ⟨a7, _, none⟩) b1.out _).trans (((cell_far (p := ⟨a7, _, none⟩) b1.out _).trans (b4.2.2.2.2.2.1)))))))))), ((cell_far (p := ⟨a7, _, none⟩) b1.out _).trans (((cell_far (p := ⟨a7, _, none⟩) b1.out _).trans (((cell_far (p := ⟨a7, _, none⟩) b1.out _).trans (((cell_far (p := ⟨a7, _, none⟩) b1.out _).trans (((cell_far (p := ⟨a7, _, none⟩) b1.out _).trans (b4.2.2.2.2.2.2.1)))))))))), ((cell_far (p := ⟨a7, _, none⟩) b1.out _).trans (((cell_far (p := ⟨a7, _, none⟩) b1.out _).trans (((cell_far (p := ⟨a7, _, none⟩) b1.out _).trans (((cell_far (p := ⟨a7, _, none⟩) b1.out _).trans (((cell_far (p := ⟨a7, _, none⟩) b1.out _).trans (b4.2.2.2.2.2.2.2.1)))))))))), ((cell_far (p := ⟨a7, _, none⟩) b1.out _).trans (((cell_far (p := ⟨a7, _, none⟩) b1.out _).trans (((cell_far (p := ⟨a7, _, none⟩) b1.out _).trans (((cell_far (p := ⟨a7, _, none⟩) b1.out _).trans (((cell_far (p := ⟨a7, _, none⟩) b1.out _).trans (b4.2.2.2.2.2.2.2.2.1)))))))))), ((cell_far (p := ⟨a7, _, none⟩) b1.out _).trans (((cell_far (p := ⟨a7, _, none⟩) b1.out _).trans (((cell_far (p := ⟨a7, _, none⟩) b1.out _).trans (((cell_far (p := ⟨a7, _, none⟩) b1.out _).trans (((cell_far (p := ⟨a7, _, none⟩) b1.out _).trans (b4.2.2.2.2.2.2.2.2.2.1)))))))))), ((cell_far (p := ⟨a7, _, none⟩) (by first | exact vaw a0.out (fun _ hk => hk.2.2.2.2) | (rw [add_block]; exact vaw a0.out (fun _ hk => hk.2.2.2.2)) | (show (Addr.add _ _).block ≠ _; rw [add_block]; exact vaw a0.out (fun _ hk => hk.2.2.2.2)) | (dsimp only; exact vaw a0.out (fun _ hk => hk.2.2.2.2))) _).trans (((cell_far (p := ⟨a7, _, none⟩) (by first | exact vaw a0.out (fun _ hk => hk.2.2.2.2) | (rw [add_block]; exact vaw a0.out (fun _ hk => hk.2.2.2.2)) | (show (Addr.add _ _).block ≠ _; rw [add_block]; exact vaw a0.out (fun _ hk => hk.2.2.2.2)) | (dsimp only; exact vaw a0.out (fun _ hk => hk.2.2.2.2))) _).trans (((cell_far (p := ⟨a7, _, none⟩) (by first | exact vaw a0.out (fun _ hk => hk.2.2.2.2) | (rw [add_block]; exact vaw a0.out (fun _ hk => hk.2.2.2.2)) | (show (Addr.add _ _).block ≠ _; rw [add_block]; exact vaw a0.out (fun _ hk => hk.2.2.2.2)) | (dsimp only; exact vaw a0.out (fun _ hk => hk.2.2.2.2))) _).trans (((cell_far (p := ⟨a7, _, none⟩) (by first | exact vaw a0.out (fun _ hk => hk.2.2.2.2) | (rw [add_block]; exact vaw a0.out (fun _ hk => hk.2.2.2.2)) | (show (Addr.add _ _).block ≠ _; rw [add_block]; exact vaw a0.out (fun _ hk => hk.2.2.2.2)) | (dsimp only; exact vaw a0.out (fun _ hk => hk.2.2.2.2))) _).trans (((cell_far (p := ⟨a7, _, none⟩) (by first | exact vaw a0.out (fun _ hk => hk.2.2.2.2) | (rw [add_block]; exact vaw a0.out (fun _ hk => hk.2.2.2.2)) | (show (Addr.add _ _).block ≠ _; rw [add_block]; exact vaw a0.out (fun _ hk => hk.2.2.2.2)) | (dsimp only; exact vaw a0.out (fun _ hk => hk.2.2.2.2))) _).trans (b4.2.2.2.2.2.2.2.2.2.2.1)))))))))), ((cell_far (p := ⟨a7, _, none⟩) (by first | exact vaw a0.out (fun _ hk => hk.2.2.2.2) | (rw [add_block]; exact vaw a0.out (fun _ hk => hk.2.2.2.2)) | (show (Addr.add _ _).block ≠ _; rw [add_block]; exact vaw a0.out (fun _ hk => hk.2.2.2.2)) | (dsimp only; exact vaw a0.out (fun _ hk => hk.2.2.2.2))) _).trans (((cell_far (p := ⟨a7, _, none⟩) (by first | exact vaw a0.out (fun _ hk => hk.2.2.2.2) | (rw [add_block]; exact vaw a0.out (fun _ hk => hk.2.2.2.2)) | (show (Addr.add _ _).block ≠ _; rw [add_block]; exact vaw a0.out (fun _ hk => hk.2.2.2.2)) | (dsimp only; exact vaw a0.out (fun _ hk => hk.2.2.2.2))) _).trans (((cell_far (p := ⟨a7, _, none⟩) (by first | exact vaw a0.out (fun _ hk => hk.2.2.2.2) | (rw [add_block]; exact vaw a0.out (fun _ hk => hk.2.2.2.2)) | (show (Addr.add _ _).block ≠ _; rw [add_block]; exact vaw a0.out (fun _ hk => hk.2.2.2.2)) | (dsimp only; exact vaw a0.out (fun _ hk => hk.2.2.2.2))) _).trans (((cell_far (p := ⟨a7, _, none⟩) (by first | exact vaw a0.out (fun _ hk => hk.2.2.2.2) | (rw [add_block]; exact vaw a0.out (fun _ hk => hk.2.2.2.2)) | (show (Addr.add _ _).block ≠ _; rw [add_block]; exact vaw a0.out (fun _ hk => hk.2.2.2.2)) | (dsimp only; exact vaw a0.out (fun _ hk => hk.2.2.2.2))) _).trans (((cell_far (p := ⟨a7, _, none⟩) (by first | exact vaw a0.out (fun _ hk => hk.2.2.2.2) | (rw [add_block]; exact vaw a0.out (fun _ hk => hk.2.2.2.2)) | (show (Addr.add _ _).block ≠ _; rw [add_block]; exact vaw a0.out (fun _ hk => hk.2.2.2.2)) | (dsimp only; exact vaw a0.out (fun _ hk => hk.2.2.2.2))) _).trans (b4.2.2.2.2.2.2.2.2.2.2.2.1)))))))))), ((cell_far (p := ⟨a7, _, none⟩) (by first | exact vaw a0.out (fun _ hk => hk.2.2.2.2) | (rw [add_block]; exact vaw a0.out (fun _ hk => hk.2.2.2.2)) | (show (Addr.add _ _).block ≠ _; rw [add_block]; exact vaw a0.out (fun _ hk => hk.2.2.2.2)) | (dsimp only; exact vaw a0.out (fun _ hk => hk.2.2.2.2))) _).trans (((cell_far (p := ⟨a7, _, none⟩) (by first | exact vaw a0.out (fun _ hk => hk.2.2.2.2) | (rw [add_block]; exact vaw a0.out (fun _ hk => hk.2.2.2.2)) | (show (Addr.add _ _).block ≠ _; rw [add_block]; exact vaw a0.out (fun _ hk => hk.2.2.2.2)) | (dsimp only; exact vaw a0.out (fun _ hk => hk.2.2.2.2))) _).trans (((cell_far (p := ⟨a7, _, none⟩) (by first | exact vaw a0.out (fun _ hk => hk.2.2.2.2) | (rw [add_block]; exact vaw a0.out (fun _ hk => hk.2.2.2.2)) | (show (Addr.add _ _).block ≠ _; rw [add_block]; exact vaw a0.out (fun _ hk => hk.2.2.2.2)) | (dsimp only; exact vaw a0.out (fun _ hk => hk.2.2.2.2))) _).trans (((cell_far (p := ⟨a7, _, none⟩) (by first | exact vaw a0.out (fun _ hk => hk.2.2.2.2) | (rw [add_block]; exact vaw a0.out (fun _ hk => hk.2.2.2.2)) | (show (Addr.add _ _).block ≠ _; rw [add_block]; exact vaw a0.out (fun _ hk => hk.2.2.2.2)) | (dsimp only; exact vaw a0.out (fun _ hk => hk.2.2.2.2))) _).trans (((cell_far (p := ⟨a7, _, none⟩) (by first | exact vaw a0.out (fun _ hk => hk.2.2.2.2) | (rw [add_block]; exact vaw a0.out (fun _ hk => hk.2.2.2.2)) | (show (Addr.add _ _).block ≠ _; rw [add_block]; exact vaw a0.out (fun _ hk => hk.2.2.2.2)) | (dsimp only; exact vaw a0.out (fun _ hk => hk.2.2.2.2))) _).trans (b4.2.2.2.2.2.2.2.2.2.2.2.2.1)))))))))), ((cell_far (p := ⟨a7, _, none⟩) (by first | exact vaw a0.out (fun _ hk => hk.2.2.2.2) | (rw [add_block]; exact vaw a0.out (fun _ hk => hk.2.2.2.2)) | (show (Addr.add _ _).block ≠ _; rw [add_block]; exact vaw a0.out (fun _ hk => hk.2.2.2.2)) | (dsimp only; exact vaw a0.out (fun _ hk => hk.2.2.2.2))) _).trans (((cell_far (p := ⟨a7, _, none⟩) (by first | exact vaw a0.out (fun _ hk => hk.2.2.2.2) | (rw [add_block]; exact vaw a0.out (fun _ hk => hk.2.2.2.2)) | (show (Addr.add _ _).block ≠ _; rw [add_block]; exact vaw a0.out (fun _ hk => hk.2.2.2.2)) | (dsimp only; exact vaw a0.out (fun _ hk => hk.2.2.2.2))) _).trans (((cell_far (p := ⟨a7, _, none⟩) (by first | exact vaw a0.out (fun _ hk => hk.2.2.2.2) | (rw [add_block]; exact vaw a0.out (fun _ hk => hk.2.2.2.2)) | (show (Addr.add _ _).block ≠ _; rw [add_block]; exact vaw a0.out (fun _ hk => hk.2.2.2.2)) | (dsimp only; exact vaw a0.out (fun _ hk => hk.2.2.2.2))) _).trans (((cell_far (p := ⟨a7, _, none⟩) (by first | exact vaw a0.out (fun _ hk => hk.2.2.2.2) | (rw [add_block]; exact vaw a0.out (fun _ hk => hk.2.2.2.2)) | (show (Addr.add _ _).block ≠ _; rw [add_block]; exact vaw a0.out (fun _ hk => hk.2.2.2.2)) | (dsimp only; exact vaw a0.out (fun _ hk => hk.2.2.2.2))) _).trans (((cell_far (p := ⟨a7, _, none⟩) (by first | exact vaw a0.out (fun _ hk => hk.2.2.2.2) | (rw [add_block]; exact vaw a0.out (fun _ hk => hk.2.2.2.2)) | (show (Addr.add _ _).block ≠ _; rw [add_block]; exact vaw a0.out (fun _ hk => hk.2.2.2.2)) | (dsimp only; exact vaw a0.out (fun _ hk => hk.2.2.2.2))) _).trans (b4.2.2.2.2.2.2.2.2.2.2.2.2.2))))))))))⟩ (fun b4 => ?_)
               clear hK K
               refine pu 15 14 (ba 16 65535) d2 ?_
               refine q1w (q2r d2.out (by kernel_rfl)) ?_
               obtain ⟨w67, hw⟩ : ∃ x, x = (((((f7.setCell ⟨a7, 0, none⟩ (.int .i64 h0)).setCell ⟨a7, 1, none⟩ (.int .i64 h2)).setCell ⟨a7, 2, none⟩ (.int .i64 h3)).setCell ⟨a7, 3, none⟩ (.int .i64 h4)).setCell ⟨a7, 4, none⟩ (.string h5)) := ⟨_, rfl⟩
               have k4 := vW (ok' := fun k_ => ((b8 k_ ∨ b9 k_) ∨ w.heap.size ≤ k_) ∧ k_ ≠ b2 ∧ k_ ≠ b5 ∧ k_ ≠ b3 ∧ k_ ≠ a7) hw b6
               have k5 := vW (ok' := fun k_ => ((b8 k_ ∨ b9 k_) ∨ w.heap.size ≤ k_) ∧ k_ ≠ b2 ∧ k_ ≠ b5 ∧ k_ ≠ b3 ∧ k_ ≠ a7) hw a0
               have k6 := vW (ok' := fun k_ => ((b8 k_ ∨ b9 k_) ∨ w.heap.size ≤ k_) ∧ k_ ≠ b2 ∧ k_ ≠ b5 ∧ k_ ≠ b3 ∧ k_ ≠ a7) hw a4
               have k7 := vW (ok' := fun k_ => ((b8 k_ ∨ b9 k_) ∨ w.heap.size ≤ k_) ∧ k_ ≠ b2 ∧ k_ ≠ b5 ∧ k_ ≠ b3 ∧ k_ ≠ a7) hw c6
               have k8 := kW hw a5
               have k9 := kW hw a9
               have l2 := kW hw a8
               have v2 := pW (cs' := #[.int .i64 h0, .int .i64 h2, .int .i64 h3, .int .i64 h4, .string h5]) hw d1
               have v3 := bW hw HB
               (try clear b6)
               (try clear a0)
               (try clear a4)
               (try clear c6)
               (try clear a5)
               (try clear a9)
               (try clear a8)
               (try clear d1)
               (try clear HB)
               rw [← hw]
               clear hw
               have b6 := k4
               have a0 := k5
               have a4 := k6
               have c6 := k7
               have a5 := k8
               have a9 := k9
               have a8 := l2
               have d1 := v2
               have HB := v3
               clear k4 k5 k6 k7 k8 k9 l2 v2 v3
               have K1 := nn e6
               have K2 := nn l5
               have K3 := nn b0
               have x4 := y5 a5
               have K4 := nn c9
               have K5 := nn d0
               have x5 := y5 d1
               try go_wp2_with (first | ((with_reducible refine gC 48 ?_); refine gL 77 Try.func48 #[.agg #[.string e4, .string e5, .slice (some c8) b7.length e3, .int .i64 e2, .slice (some d5) a6.length d6], .int .i64 a3, .agg #[.int .i64 h0, .int .i64 h2, .int .i64 h3, .int .i64 h4, .string h5]] ?_; (with_reducible refine (Fm.calls o6 e4 e5 (fun k_ => (((b8 k_ ∨ b9 k_) ∨ w.heap.size ≤ k_) ∧ (k_ ≠ b2 ∧ (k_ ≠ b5 ∧ (k_ ≠ b3 ∧ k_ ≠ a7))))) _ _ b7 e2 _ _ a6 a3 h0 h2 h3 h4 h5 v5 v6 v7 v8 v9 _ ?side1 ?side2 ?side3 L4.out).mono ?_); (case side1 => exact a0.out); (case side2 => exact pC ((Kd.V_reads' a4.out).2.2)); (case side3 => exact (Kd.V_reads' a4.out).2.1); rintro e O1 ⟨N0, D4, rfl, u1, n5, hb⟩; refine ⟨_, rfl, ?_⟩; replace b6 := am (Kd.V_elder' (pV b6.out) (Kd.R_base n5) hb); replace a0 := am (Kd.V_elder' (pV a0.out) (Kd.R_base n5) hb); replace a4 := am (Kd.V_elder' (pV a4.out) (Kd.R_base n5) hb); replace c6 := am (Kd.V_elder' (pV c6.out) (Kd.R_base n5) hb); have p1 := vL (ok' := fun k_ => ((b8 k_ ∨ b9 k_) ∨ w.heap.size ≤ k_) ∧ some k_ ≠ (D4 : Value).ownBlock ∧ k_ ≠ b2 ∧ k_ ≠ b5 ∧ k_ ≠ b3 ∧ k_ ≠ a7) HB u1 (fun k_ i7 => ⟨Or.elim i7.1 (fun e0 => e0.1) (fun u0 => (.inr (Nat.le_trans (q0m (pB HB.out)) u0))), i7.2, Or.elim i7.1 (fun e0 => e0.2.1) (fB a5), Or.elim i7.1 (fun e0 => e0.2.2.1) (fB a9), Or.elim i7.1 (fun e0 => e0.2.2.2.1) (fB a8), Or.elim i7.1 (fun e0 => e0.2.2.2.2) (fB d1)⟩); have p2 := am (Kd.R_lower (Kd.R_newB (Kd.R_newB (Kd.R_newM (M := fun k_ => (w.heap.size ≤ k_)) (Kd.R_mono (ok' := fun k_ => True) n5 (fun _ i7 => trivial)) (q0m (pB HB.out)) (fun k_ h_ => h_)) (g := b3) (o := .cells #[.int .i64 ((q0a a6 a3).f0), .int .i64 ((q0a a6 a3).f1), .int .i64 ((q0a a6 a3).f2), .int .i64 ((q0a a6 a3).f3), .string ((q0a a6 a3).f4)] 51 (0, 0)) (pk a8.out)) (g := a7) (o := .cells #[.int .i64 h0, .int .i64 h2, .int .i64 h3, .int .i64 h4, .string h5] 51 (0, 0)) (pk d1.out)) (q0m (pB HB.out))); replace a5 := kB a5 hb; replace a9 := kB a9 hb; replace a8 := kB a8 hb; replace d1 := kB d1 hb; replace HB := bS HB hb; (try clear hb); (try clear u1); (try clear n5); have K6 := nn l7; have x6 := y5 a9; obtain ⟨C2, C5, D1⟩ := Kd.V_slice p1.out; subst D1; obtain ⟨C3, C6, D2⟩ := Kd.R_slice p2.out; subst D2))
               refine bodyPost_ret (q4n rfl _ _ b5 27 #[.string v5, .string v6, .slice C2 v7.length C5, .int .i64 v8, .slice C3 v9.length C6] (0, 0) _ rfl (pP a9.out) Try.underlying27 rfl (by kernel_rfl)) rfl ?_
               exact ⟨_, _, by first | rfl | (simp [q1b, q1a] <;> rfl) | (simp [*, q1b, q1a] <;> rfl), by exact Kd.V_mono (pV p1.out) (fun _ hk => ⟨hk.1, hk.2.1⟩), by exact Kd.R_mono (pR (Kd.R_types p2.out a9.out (by decide))) (fun _ hk => hk.1.1.1.1), pB HB.out⟩
              rw [if_neg w8] at H
              exact absurd H (by simp)
             rw [if_neg w5] at H
             exact absurd H (by simp)
            replace w4 := Bool.eq_false_iff.mpr w4
            subst w4
            rw [if_neg (show ¬ (false = true) by decide)] at H
            try dsimp only at H
            have H' := am H
            clear H
            go_wp2
            go_roundg o6
            case measure => have := p7.out; have := p8.out; have := r8.out; have := r0.out; omega
            case rel => exact ⟨(wrap64 (a3 + 1)), (d7), (d8), (d9), el, H', ⟨by have := p7.out; have := p8.out; have := r8.out; have := r0.out; omega⟩, (vM b6), (vM a0), (vM a4), ⟨pk a5.out⟩, ⟨pk a9.out⟩, ⟨pB HB.out⟩⟩
         rw [if_neg s5] at H
         exact absurd H (by simp)
        rw [if_neg s3] at H
        exact absurd H (by simp)
       rw [if_neg q0] at H
       have p4 := decide_eq_false q0
       clear q0
       simp only [Option.some.injEq, Prod.mk.injEq] at H
       obtain ⟨rfl, rfl, rfl, rfl, rfl, rfl, rfl⟩ := H
       have K7 := nn f8
       have x7 := y5 a9
       go_wp2
       refine bodyPost_ret (q4n rfl _ _ b5 27 #[.string (⟨#[]⟩ : ByteArray), .string (⟨#[]⟩ : ByteArray), .slice none 0 0, .int .i64 0, .slice none 0 0] (0, 0) _ rfl (pP a9.out) Try.underlying27 rfl (by kernel_rfl)) rfl ?_
       exact ⟨_, _, by first | rfl | (simp [q1b, q1a] <;> rfl) | (simp [*, q1b, q1a] <;> rfl), Kd.V_nil _ _ _ _ _, by first | exact Kd.R_nil _ _ _ _ _ | exact Kd.N_nil _ _ _ _ _ | exact Kd.V_nil _ _ _ _ _ | exact Kd.Q_nil _ _ _ _ _ | exact Kd.S_nil _ _ _ _ _, pB HB.out⟩
def Fx.l0 : Nat → List (S51) → Int → Int → ByteArray → ByteArray → List (S49) → Int → List (S51) → Option (ByteArray × ByteArray × (List (S49)) × Int × (List (S51)) × Int)
 | 0, _, _, _, _, _, _, _, _ => none
 | k + 1, a8, a9, a6, a2, a3, a4, a7, a5 => if a6 < a9 then (if 0 ≤ a6 then (if a6 < (a8.length : Int) then ((Gd.f ((q0a a8 a6).f0) ((q0a a8 a6).f1) ((q0a a8 a6).f2) ((q0a a8 a6).f3) ((q0a a8 a6).f4)).bind fun a0 => ((Fm.f k a2 a3 a4 a7 a5 a6 a0.1 a0.2.1 a0.2.2.1 a0.2.2.2.1 a0.2.2.2.2).bind fun a1 => (Fx.l0 k a8 a9 (wrap64 (a6 + 1)) a1.1 a1.2.1 a1.2.2.1 a1.2.2.2.1 a1.2.2.2.2))) else (none)) else (none)) else (some (a2, a3, a4, 3, a5, 0))
def Fx.f (k : Nat) (a2 : ByteArray) (a3 : ByteArray) (a5 : List (S49)) (a4 : Int) (a6 : List (S51)) (a1 : Int) : Option (ByteArray × ByteArray × (List (S49)) × Int × (List (S51)) × Int) := (Fj.f k a2 a3 a5 a4 a6 a1).bind fun a0 => (if a0.2.2.2.1 = 0 then (Fx.l0 k a0.2.2.2.2 (a0.2.2.2.2.length : Int) 0 a0.1 a0.2.1 a0.2.2.1 a0.2.2.2.1 a0.2.2.2.2) else (some ((⟨#[]⟩ : ByteArray), (⟨#[]⟩ : ByteArray), ([] : List (S49)), 0, ([] : List (S51)), 193)))
set_option maxHeartbeats 8000000 in
set_option maxRecDepth 100000 in
theorem Fx.calls (k : Nat) (d8 : ByteArray) (d9 : ByteArray) (b1 : Nat → Prop) (e2 : Option Addr) (e4 : Nat) (d2 : List (S49)) (e0 : Int) (b2 : Nat → Prop) (e3 : Option Addr) (e5 : Nat) (d3 : List (S51)) (a1 : Int) (r1 : ByteArray) (r2 : ByteArray) (r3 : List (S49)) (r4 : Int) (r5 : List (S51)) (r6 : Int) (w : World) (j5 : Kd.V k49 49 w w.heap.size (fun k_ => b1 k_) (.slice e2 d2.length e4) d2) (j6 : Kd.V k51 51 w w.heap.size (fun k_ => b2 k_) (.slice e3 d3.length e5) d3) (h : Fx.f k d8 d9 d2 e0 d3 a1 = some (r1, r2, r3, r4, r5, r6)) :
  Calls Try.prog 26 #[.agg #[.string d8, .string d9, .slice e2 d2.length e4, .int .i64 e0, .slice e3 d3.length e5], .int .i64 a1] w fun e w' => ∃ t4 t5 : Value, e = .returned (.tuple #[.agg #[.string r1, .string r2, t4, .int .i64 r4, t5], .int .i64 r6]) ∧ Kd.V k49 49 w' w.heap.size (fun k_ => ((b1 k_ ∨ b2 k_) ∨ w.heap.size ≤ k_)) t4 r3 ∧ Kd.V k51 51 w' w.heap.size (fun k_ => ((b1 k_ ∨ b2 k_) ∨ w.heap.size ≤ k_)) t5 r5 ∧ Below w.heap.size w w' := by
 have u8 := Try.underlying27
 have u9 := Try.underlying51
 have c8 := am (show Kd.V k49 49 w w.heap.size (fun k_ => ((b1 k_ ∨ b2 k_) ∨ w.heap.size ≤ k_)) (.slice e2 d2.length e4) d2 from Kd.V_mono j5 (fun k_ hk => .inl (.inl hk)))
 have c9 := am (show Kd.V k51 51 w w.heap.size (fun k_ => ((b1 k_ ∨ b2 k_) ∨ w.heap.size ≤ k_)) (.slice e3 d3.length e5) d3 from Kd.V_mono j6 (fun k_ hk => .inl (.inr hk)))
 have HB := am (Below.refl w.heap.size w)
 unfold Fx.f at h
 have H := h
 clear h
 replace H := Option.bind_eq_some_iff.mp H
 obtain ⟨⟨g6, g7, f6, f7, a8⟩, p6, H⟩ := H
 try dsimp only at H
 have A3 := am p6
 clear p6
 by_cases c4 : f7 = 0
 ·
  rw [if_pos c4] at H
  obtain ⟨i6, i7⟩ := qt c4
  clear c4
  have H' := am H
  clear H
  go_enter Try.func26, Try.ntmps26
  go_wp2_with (first | ((with_reducible refine gD 2 ?_); refine bz 2 #[.string d8, .string d9, .slice e2 d2.length e4, .int .i64 e0, .slice e3 d3.length e5] 27 HB ?_; clear HB; intro a6 hg w5 hb a0 i3 HB; replace c8 := vE c8 hg hb; replace c9 := vE c9 hg hb; clear hb hg) | ((with_reducible refine gD 4 ?_); refine bz 4 #[.string (⟨#[]⟩ : ByteArray), .string (⟨#[]⟩ : ByteArray), .slice none 0 0, .int .i64 0, .slice none 0 0] 27 HB ?_; clear HB; intro b3 hg w6 hb a5 i4 HB; replace c8 := vE c8 hg hb; replace c9 := vE c9 hg hb; have b0 := nL hg a0; have c6 := nG hg a0; replace a0 := kB a0 hb; clear hb hg; have u2 := nn b0; have g3 := y5 a0) | ((with_reducible refine gC 18 ?_); refine gL 10 Try.func18 #[.agg #[.string d8, .string d9, .slice e2 d2.length e4, .int .i64 e0, .slice e3 d3.length e5], .int .i64 a1] ?_; (with_reducible refine (Fj.calls k d8 d9 (fun k_ => ((((b1 k_ ∨ b2 k_) ∨ w.heap.size ≤ k_) ∧ k_ ≠ a6) ∧ k_ ≠ b3)) _ _ d2 e0 (fun k_ => ((((b1 k_ ∨ b2 k_) ∨ w.heap.size ≤ k_) ∧ k_ ≠ a6) ∧ k_ ≠ b3)) _ _ d3 a1 g6 g7 f6 f7 a8 _ ?side1 ?side2 A3.out).mono ?_); (case side1 => exact c8.out); (case side2 => exact c9.out); rintro e w9 ⟨p3, p4, rfl, g0, e8, hb⟩; refine ⟨_, rfl, ?_⟩; replace c8 := vB c8 hb; replace c9 := vB c9 hb; have e6 := vL (ok' := fun k_ => ((b1 k_ ∨ b2 k_) ∨ w.heap.size ≤ k_) ∧ k_ ≠ a6 ∧ k_ ≠ b3) HB g0 (fun k_ d6 => ⟨Or.elim d6 (fun a9 => Or.elim a9 (fun a9 => a9.1.1) (fun a9 => a9.1.1)) (fun f5 => (.inr (Nat.le_trans (q0m (pB HB.out)) f5))), Or.elim d6 (fun a9 => Or.elim a9 (fun a9 => a9.1.2) (fun a9 => a9.1.2)) (fB a0), Or.elim d6 (fun a9 => Or.elim a9 (fun a9 => a9.2) (fun a9 => a9.2)) (fB a5)⟩); have d7 := vL (ok' := fun k_ => ((b1 k_ ∨ b2 k_) ∨ w.heap.size ≤ k_) ∧ k_ ≠ a6 ∧ k_ ≠ b3) HB e8 (fun k_ d6 => ⟨Or.elim d6 (fun a9 => Or.elim a9 (fun a9 => a9.1.1) (fun a9 => a9.1.1)) (fun f5 => (.inr (Nat.le_trans (q0m (pB HB.out)) f5))), Or.elim d6 (fun a9 => Or.elim a9 (fun a9 => a9.1.2) (fun a9 => a9.1.2)) (fB a0), Or.elim d6 (fun a9 => Or.elim a9 (fun a9 => a9.2) (fun a9 => a9.2)) (fB a5)⟩); replace a0 := kB a0 hb; replace a5 := kB a5 hb; replace HB := bS HB hb; (try clear hb); (try clear g0); (try clear e8); have e9 := y5 a0; obtain ⟨n6, o1, o7⟩ := Kd.V_slice e6.out; subst o7; obtain ⟨i0, i8, o8⟩ := Kd.V_slice d7.out; subst o8))
  go_loopg [18] k (fun kq v0 w' => ∃ (a2 : Int) (b4 : ByteArray) (b5 : ByteArray) (b6 : List (S49)) (b7 : Int) (b8 : List (S51)) (d4 : Value) (d5 : Value), v0 = .int .i64 a2 ∧ q0e (Fx.l0 kq a8 (a8.length : Int) a2 b4 b5 b6 b7 b8 = some (r1, r2, r3, r4, r5, r6)) ∧ q0e (kq ≤ k) ∧ q0e (Kd.V k51 51 w' w.heap.size (fun k_ => ((b1 k_ ∨ b2 k_) ∨ w.heap.size ≤ k_) ∧ k_ ≠ a6 ∧ k_ ≠ b3) (.slice i0 a8.length i8) a8) ∧ q0e (Kd.V k49 49 w' w.heap.size (fun k_ => ((b1 k_ ∨ b2 k_) ∨ w.heap.size ≤ k_) ∧ k_ ≠ a6 ∧ k_ ≠ b3) d4 b6) ∧ q0e (Kd.V k51 51 w' w.heap.size (fun k_ => ((b1 k_ ∨ b2 k_) ∨ w.heap.size ≤ k_) ∧ k_ ≠ a6 ∧ k_ ≠ b3) d5 b8) ∧ q0e (w'.heap[a6]? = some (.cells #[.string b4, .string b5, d4, .int .i64 b7, d5] 27 (0, 0))) ∧ q0e (w'.heap[b3]? = some (.cells #[.string (⟨#[]⟩ : ByteArray), .string (⟨#[]⟩ : ByteArray), (.slice none 0 0), .int .i64 0, (.slice none 0 0)] 27 (0, 0))) ∧ q0e (Below w.heap.size w w'))
  case atStart => exact ⟨(0), (g6), (g7), (f6), (f7), (a8), (.slice n6 f6.length o1), (.slice i0 a8.length i8), el, H', ⟨Nat.le_refl _⟩, ⟨(pV d7.out)⟩, ⟨(pV e6.out)⟩, ⟨(pV d7.out)⟩, ⟨pP a0.out⟩, ⟨pk a5.out⟩, ⟨pB HB.out⟩⟩
  case round =>
   clear H'
   try clear c4
   try clear i6
   try clear i7
   try clear e9
   try clear g3
   try clear a0; try clear a5; try clear HB
   obtain ⟨a2, b4, b5, b6, b7, b8, d4, d5, rfl, HA, p8, d0, a4, a3, a0, a5, HB⟩ := hrel
   cases gk with
   | zero => exact absurd HA.out (by simp [Fx.l0])
   | succ k1 =>
    have H := HA.out
    clear HA
    simp only [Fx.l0] at H
    by_cases h7 : a2 < (a8.length : Int)
    ·
     rw [if_pos h7] at H
     have i5 := decide_eq_true h7
     clear h7
     by_cases k2 : 0 ≤ a2
     ·
      rw [if_pos k2] at H
      have q0 := decide_eq_true k2
      clear k2
      by_cases k3 : a2 < (a8.length : Int)
      ·
       rw [if_pos k3] at H
       have q1 := decide_eq_true k3
       clear k3
       replace H := Option.bind_eq_some_iff.mp H
       obtain ⟨⟨g8, g9, h0, h2, h3⟩, h8, H⟩ := H
       try dsimp only at H
       have t6 := am h8
       clear h8
       replace H := Option.bind_eq_some_iff.mp H
       obtain ⟨⟨j7, j8, h4, j9, h5⟩, h9, H⟩ := H
       try dsimp only at H
       have t7 := am h9
       clear h9
       have H' := am H
       clear H
       have g4 : 0 ≤ (a2 : Int) := od
       have g5 : a2 < (a8.length : Int) := od
       obtain ⟨p9, o6, n1, n2, n3, n4, n5⟩ := q1j (Kd.V_reads' d0.out).2.2 a2 g4 g5
       cases o6
       replace g4 := eq_true g4
       replace g5 := eq_true g5
       try go_wp2_with (first | ((with_reducible refine gD 7 ?_); refine bz 7 #[.int .i64 0, .int .i64 0, .int .i64 0, .int .i64 0, .string (⟨#[]⟩ : ByteArray)] 51 HB ?_; clear HB; intro b9 hg v2 hb a7 p7 HB; replace d0 := vE d0 hg hb; replace a4 := vE a4 hg hb; replace a3 := vE a3 hg hb; have d1 := nL hg a0; have c7 := nG hg a0; replace a0 := kB a0 hb; have h6 := nL hg a5; have e7 := nG hg a5; replace a5 := kB a5 hb; clear hb hg; have q7 := nn c7; have q8 := nn e7; have k4 := y5 a7))
       obtain ⟨w22, hw⟩ : ∃ x, x = (((((v2.setCell ⟨b9, 0, none⟩ (.int .i64 ((q0a a8 a2).f0))).setCell ⟨b9, 1, none⟩ (.int .i64 ((q0a a8 a2).f1))).setCell ⟨b9, 2, none⟩ (.int .i64 ((q0a a8 a2).f2))).setCell ⟨b9, 3, none⟩ (.int .i64 ((q0a a8 a2).f3))).setCell ⟨b9, 4, none⟩ (.string ((q0a a8 a2).f4))) := ⟨_, rfl⟩
       have r7 := vW (ok' := fun k_ => ((b1 k_ ∨ b2 k_) ∨ w.heap.size ≤ k_) ∧ k_ ≠ a6 ∧ k_ ≠ b3 ∧ k_ ≠ b9) hw d0
       have r8 := vW (ok' := fun k_ => ((b1 k_ ∨ b2 k_) ∨ w.heap.size ≤ k_) ∧ k_ ≠ a6 ∧ k_ ≠ b3 ∧ k_ ≠ b9) hw a4
       have r9 := vW (ok' := fun k_ => ((b1 k_ ∨ b2 k_) ∨ w.heap.size ≤ k_) ∧ k_ ≠ a6 ∧ k_ ≠ b3 ∧ k_ ≠ b9) hw a3
       have t0 := kW hw a0
       have t1 := kW hw a5
       have t2 := pW (cs' := #[.int .i64 ((q0a a8 a2).f0), .int .i64 ((q0a a8 a2).f1), .int .i64 ((q0a a8 a2).f2), .int .i64 ((q0a a8 a2).f3), .string ((q0a a8 a2).f4)]) hw a7
       have t3 := bW hw HB
       (try clear d0)
       (try clear a4)
       (try clear a3)
       (try clear a0)
       (try clear a5)
       (try clear a7)
       (try clear HB)
       rw [← hw]
       clear hw
       have d0 := r7
       have a4 := r8
       have a3 := r9
       have a0 := t0
       have a5 := t1
       have a7 := t2
       have HB := t3
       clear r7 r8 r9 t0 t1 t2 t3
       replace d0 := am (Kd.V_drew d0.out)
       replace a4 := am (Kd.V_drew a4.out)
       replace a3 := am (Kd.V_drew a3.out)
       replace a0 := am (q0g a0.out)
       replace a5 := am (q0g a5.out)
       replace a7 := am (q0g a7.out)
       replace HB := am (q0b HB.out)
       refine q2a (n := 6) (S := fun w' => w'.cell? ⟨a6, 0, none⟩ = some (.string b4) ∧ w'.cell? ⟨a6, 1, none⟩ = some (.string b5) ∧ w'.cell? ⟨a6, 2, none⟩ = some (d4) ∧ w'.cell? ⟨a6, 3, none⟩ = some (.int .i64 b7) ∧ w'.cell? ⟨a6, 4, none⟩ = some (d5) ∧ w'.cell? ⟨b9, 0, none⟩ = some (.int .i64 ((q0a a8 a2).f0)) ∧ w'.cell? ⟨b9, 1, none⟩ = some (.int .i64 ((q0a a8 a2).f1)) ∧ w'.cell? ⟨b9, 2, none⟩ = some (.int .i64 ((q0a a8 a2).f2)) ∧ w'.cell? ⟨b9, 3, none⟩ = some (.int .i64 ((q0a a8 a2).f3)) ∧ w'.cell? ⟨b9, 4, none⟩ = some (.string ((q0a a8 a2).f4))) (ds := [5]) #[false, false, false, false, false, false] (by kernel_rfl) rfl rfl ⟨bc a0.out, bc a0.out, bc a0.out, bc a0.out, bc a0.out, bc a7.out, bc a7.out, bc a7.out, bc a7.out, bc a7.out⟩ (fun e1 => ?_)
       generalize w22.drew = v3 at d0 a4 a3 a0 a5 a7 HB e1 ⊢
       refine pure_ (i := 1) (N := some 24) (v := ?_) (a' := ?_) #[false, true, false, false, false, false] rfl rfl (by kernel_rfl) (fun _ _ _ h => h) (Or.inl ⟨by rfl, ?_⟩) ?_ ?_
       rotate_left
       ·
        intro w'
        go_simp
        with_reducible rfl
       rotate_left
       ·
        simp only [Act.put, List.setIfInBounds_toArray, List.set_cons_zero, List.set_cons_succ, q1u, q1v]
        rfl
       refine take_ (i := 0) (N := some 23) (v := ?_) (a' := ?_) #[true, true, false, false, false, false] rfl rfl (by kernel_rfl) (fun _ _ _ h => h) (Or.inl ⟨by rfl, ?_⟩) e1 ?_ ?_
       rotate_left
       ·
        rintro w' ⟨s0, s1, s2, s3, s4, s5, s6, s7, s8, s9⟩
        go_simp
        with_reducible rfl
       rotate_left
       ·
        simp only [Act.put, List.setIfInBounds_toArray, List.set_cons_zero, List.set_cons_succ, q1u, q1v]
        rfl
       refine take_ (i := 2) (N := some 25) (v := ?_) (a' := ?_) #[true, true, true, false, false, false] rfl rfl (by kernel_rfl) (fun _ _ _ h => h) (Or.inl ⟨by rfl, ?_⟩) e1 ?_ ?_
       rotate_left
       ·
        rintro w' ⟨s0, s1, s2, s3, s4, s5, s6, s7, s8, s9⟩
        go_simp
        with_reducible rfl
       rotate_left
       ·
        simp only [Act.put, List.setIfInBounds_toArray, List.set_cons_zero, List.set_cons_succ, q1u, q1v]
        rfl
       refine one_ (i := 3) (N := some 26) #[true, true, true, true, false, false] rfl rfl (by kernel_rfl) (by decide) (fun K hK => ?_)
       refine q1r Try.func67 (by kernel_rfl) rfl #[.agg #[.int .i64 ((q0a a8 a2).f0), .int .i64 ((q0a a8 a2).f1), .int .i64 ((q0a a8 a2).f2), .int .i64 ((q0a a8 a2).f3), .string ((q0a a8 a2).f4)]] (by rfl) rfl rfl (by (try simp only [List.map_toArray, List.map_cons, List.map_nil]); first | done | rfl | (simp only [List.length_drop, List.length_take]; rfl)) ?_
       with_reducible refine (Gd.calls ((q0a a8 a2).f0) ((q0a a8 a2).f1) ((q0a a8 a2).f2) ((q0a a8 a2).f3) ((q0a a8 a2).f4) g8 g9 h0 h2 h3 _ t6.out).mono ?_
       rintro e v4 ⟨rfl, hb⟩
       refine ⟨_, rfl, ?_⟩
       replace d0 := vB d0 hb
       replace a4 := vB a4 hb
       replace a3 := vB a3 hb
       replace a0 := kB a0 hb
       replace a5 := kB a5 hb
       replace a7 := kB a7 hb
       replace HB := bS HB hb
       (try clear hb)
       (try clear hb2)
       (try clear hk)
       (try clear hi)
       obtain ⟨i1, i9, j1⟩ := Kd.V_slice a4.out
       (first | subst j1 | (injection j1 with f1_ f2_ f3_; have g1 := f1_.symm; have g2 := f3_.symm; clear f1_ f2_ f3_; subst g1; subst g2))
       obtain ⟨i2, j0, j2⟩ := Kd.V_slice a3.out
       (first | subst j2 | (injection j2 with f1_ f2_ f3_; have g1 := f1_.symm; have g2 := f3_.symm; clear f1_ f2_ f3_; subst g1; subst g2))
       refine hK.out _ _ ⟨bc a0.out, bc a0.out, bc a0.out, bc a0.out, bc a0.out, bc a7.out, bc a7.out, bc a7.out, bc a7.out, bc a7.out⟩ (fun e1 => ?_)
       clear hK K
       refine nh ?_
       refine one_ (i := 4) (N := some 27) #[true, true, true, true, true, false] rfl rfl (by kernel_rfl) (by decide) (fun K hK => ?_)
       refine q1r Try.func48 (by kernel_rfl) rfl #[.agg #[.string b4, .string b5, .slice i1 b6.length i9, .int .i64 b7, .slice i2 b8.length j0], .int .i64 a2, .agg #[.int .i64 g8, .int .i64 g9, .int .i64 h0, .int .i64 h2, .string h3]] (by rfl) rfl rfl (by (try simp only [List.map_toArray, List.map_cons, List.map_nil]); first | done | rfl | (simp only [List.length_drop, List.length_take]; rfl)) ?_
       with_reducible refine (Fm.calls k1 b4 b5 (fun k_ => (((b1 k_ ∨ b2 k_) ∨ w.heap.size ≤ k_) ∧ (k_ ≠ a6 ∧ (k_ ≠ b3 ∧ k_ ≠ b9)))) _ _ b6 b7 _ _ b8 a2 g8 g9 h0 h2 h3 j7 j8 h4 j9 h5 _ ?side1 ?side2 ?side3 t7.out).mono ?_
       (case side1 => exact a4.out)
       (case side2 => exact pC ((Kd.V_reads' a3.out).2.2))
       (case side3 => exact (Kd.V_reads' a3.out).2.1)
       rintro e k0 ⟨v1, p5, rfl, g0, e8, hb⟩
       refine ⟨_, rfl, ?_⟩
       replace d0 := am (Kd.V_elder' (pV d0.out) (Kd.R_base e8) hb)
       replace a4 := am (Kd.V_elder' (pV a4.out) (Kd.R_base e8) hb)
       replace a3 := am (Kd.V_elder' (pV a3.out) (Kd.R_base e8) hb)
       have f8 := vL (ok' := fun k_ => ((b1 k_ ∨ b2 k_) ∨ w.heap.size ≤ k_) ∧ some k_ ≠ (p5 : Value).ownBlock ∧ k_ ≠ a6 ∧ k_ ≠ b3 ∧ k_ ≠ b9) HB g0 (fun k_ d6 => ⟨Or.elim d6.1 (fun a9 => a9.1) (fun f5 => (.inr (Nat.le_trans (q0m (pB HB.out)) f5))), d6.2, Or.elim d6.1 (fun a9 => a9.2.1) (fB a0), Or.elim d6.1 (fun a9 => a9.2.2.1) (fB a5), Or.elim d6.1 (fun a9 => a9.2.2.2) (fB a7)⟩)
       have f9 := am (Kd.R_lower (Kd.R_newB (Kd.R_newM (M := fun k_ => (w.heap.size ≤ k_)) (Kd.R_mono (ok' := fun k_ => True) e8 (fun _ d6 => trivial)) (q0m (pB HB.out)) (fun k_ h_ => h_)) (g := b9) (o := .cells #[.int .i64 ((q0a a8 a2).f0), .int .i64 ((q0a a8 a2).f1), .int .i64 ((q0a a8 a2).f2), .int .i64 ((q0a a8 a2).f3), .string ((q0a a8 a2).f4)] 51 (0, 0)) (pk a7.out)) (q0m (pB HB.out)))
       replace a0 := kB a0 hb
       replace a5 := kB a5 hb
       replace a7 := kB a7 hb
       replace HB := bS HB hb
       (try clear hb)
       (try clear hb2)
       (try clear hk)
       (try clear hi)
       (try clear g0)
       (try clear e8)
       obtain ⟨n7, o2, j3⟩ := Kd.V_slice f8.out
       (first | subst j3 | (injection j3 with f1_ f2_ f3_; have g1 := f1_.symm; have g2 := f3_.symm; clear f1_ f2_ f3_; subst g1; subst g2))
       obtain ⟨n8, o3, j4⟩ := Kd.R_slice f9.out
       (first | subst j4 | (injection j4 with f1_ f2_ f3_; have g1 := f1_.symm; have g2 := f3_.symm; clear f1_ f2_ f3_; subst g1; subst g2))
       refine hK.out _ _ ⟨bc a0.out, bc a0.out, bc a0.out, bc a0.out, bc a0.out, bc a7.out, bc a7.out, bc a7.out, bc a7.out, bc a7.out⟩ (fun e1 => ?_)
       clear hK K
       refine nh ?_
       refine last_ (i := 5) (N := none) #[true, true, true, true, true, true] rfl rfl (by kernel_rfl) (by decide) (fun K hK => ?_)
       have u3 : k0.cell? ⟨a6, 0, none⟩ = some (.string b4) := bc a0.out
       have q2 := z1 a0.out
       have m1 := c6.out
       have m2 := c7.out
       have l1 := b0.out
       have l2 := d1.out
       have u4 : k0.cell? ⟨a6, 1, none⟩ = some (.string b5) := bc a0.out
       have q3 := q0j a0.out 1
       have m3 := c6.out
       have m4 := c7.out
       have l3 := b0.out
       have l4 := d1.out
       have u5 : k0.cell? ⟨a6, 2, none⟩ = some (.slice i1 b6.length i9) := bc a0.out
       have q4 := q0j a0.out 2
       have m5 := c6.out
       have m6 := c7.out
       have l5 := b0.out
       have l6 := d1.out
       have u6 : k0.cell? ⟨a6, 3, none⟩ = some (.int .i64 b7) := bc a0.out
       have q5 := q0j a0.out 3
       have m7 := c6.out
       have m8 := c7.out
       have l7 := b0.out
       have l8 := d1.out
       have u7 : k0.cell? ⟨a6, 4, none⟩ = some (.slice i2 b8.length j0) := bc a0.out
       have q6 := q0j a0.out 4
       have m9 := c6.out
       have n0 := c7.out
       have l9 := b0.out
       have m0 := d1.out
       refine skip_ (w1 := ?_) (by rfl) rfl ?_ ?_
       rotate_left
       ·
        go_simp
        rfl
       refine hK.out _ _ ?_
       clear hK K
       refine q1w (by kernel_rfl) ?_
       try go_wp2
       go_roundg k1
       case measure => have := p8.out; omega
       case rel => exact ⟨(wrap64 (a2 + 1)), (j7), (j8), (h4), (j9), (h5), (.slice n7 h4.length o2), (.slice n8 h5.length o3), el, H', ⟨by have := p8.out; omega⟩, (vM d0), (vM f8), ⟨Kd.V_mono (Kd.R_V (ok := fun k_ => w.heap.size ≤ k_ ∧ k_ ≠ a6 ∧ k_ ≠ b3) (by exact Kd.R_mono (pR (Kd.R_types (Kd.R_types (Kd.R_types f9.out a0.out (by decide)) a5.out (by decide)) a0.out (by decide))) (fun _ hk => ⟨hk.1.1.1.1.1, ⟨hk.1.1.2, hk.1.2⟩⟩))) (fun k_ hk => by first | exact ⟨(.inr (hk.1)), hk.2⟩ | exact (.inr (hk)))⟩, ⟨pP a0.out⟩, ⟨pk a5.out⟩, ⟨pB HB.out⟩⟩
      rw [if_neg k3] at H
      exact absurd H (by simp)
     rw [if_neg k2] at H
     exact absurd H (by simp)
    rw [if_neg h7] at H
    have i5 := decide_eq_false h7
    clear h7
    simp only [Option.some.injEq, Prod.mk.injEq] at H
    obtain ⟨rfl, rfl, rfl, rfl, rfl, rfl⟩ := H
    have q9 := nn b0
    have k5 := y5 a0
    have k6 := y5 a5
    obtain ⟨n9, o4, o9⟩ := Kd.V_slice a4.out
    subst o9
    obtain ⟨o0, o5, p0⟩ := Kd.V_slice a3.out
    subst p0
    go_wp2
    refine bodyPost_ret (q1h rfl _ _ b3 27 #[.string b4, .string b5, .slice n9 b6.length o4, .int .i64 3, .slice o0 b8.length o5] (0, 0) _ rfl (pP a5.out) Try.underlying27 rfl (by kernel_rfl)) rfl ?_
    exact ⟨_, _, by first | rfl | (simp [q1b, q1a] <;> rfl) | (simp [*, q1b, q1a] <;> rfl), by exact Kd.V_mono (pV a4.out) (fun _ hk => hk.1), by exact Kd.V_mono (pV a3.out) (fun _ hk => hk.1), pB HB.out⟩
 rw [if_neg c4] at H
 obtain ⟨i6, i7⟩ := qf c4
 simp only [Option.some.injEq, Prod.mk.injEq] at H
 obtain ⟨rfl, rfl, rfl, rfl, rfl, rfl⟩ := H
 go_enter Try.func26, Try.ntmps26
 go_wp2_with (first | ((with_reducible refine gD 2 ?_); refine bz 2 #[.string d8, .string d9, .slice e2 d2.length e4, .int .i64 e0, .slice e3 d3.length e5] 27 HB ?_; clear HB; intro a6 hg v5 hb a0 i3 HB; replace c8 := vE c8 hg hb; replace c9 := vE c9 hg hb; clear hb hg) | ((with_reducible refine gD 4 ?_); refine bz 4 #[.string (⟨#[]⟩ : ByteArray), .string (⟨#[]⟩ : ByteArray), .slice none 0 0, .int .i64 0, .slice none 0 0] 27 HB ?_; clear HB; intro b3 hg v6 hb a5 i4 HB; replace c8 := vE c8 hg hb; replace c9 := vE c9 hg hb; have b0 := nL hg a0; have c6 := nG hg a0; replace a0 := kB a0 hb; clear hb hg; have r0 := nn b0; have k7 := y5 a0) | ((with_reducible refine gC 18 ?_); refine gL 10 Try.func18 #[.agg #[.string d8, .string d9, .slice e2 d2.length e4, .int .i64 e0, .slice e3 d3.length e5], .int .i64 a1] ?_; (with_reducible refine (Fj.calls k d8 d9 (fun k_ => ((((b1 k_ ∨ b2 k_) ∨ w.heap.size ≤ k_) ∧ k_ ≠ a6) ∧ k_ ≠ b3)) _ _ d2 e0 (fun k_ => ((((b1 k_ ∨ b2 k_) ∨ w.heap.size ≤ k_) ∧ k_ ≠ a6) ∧ k_ ≠ b3)) _ _ d3 a1 g6 g7 f6 f7 a8 _ ?side1 ?side2 A3.out).mono ?_); (case side1 => exact c8.out); (case side2 => exact c9.out); rintro e v7 ⟨p3, p4, rfl, g0, e8, hb⟩; refine ⟨_, rfl, ?_⟩; replace c8 := vB c8 hb; replace c9 := vB c9 hb; have e6 := vL (ok' := fun k_ => ((b1 k_ ∨ b2 k_) ∨ w.heap.size ≤ k_) ∧ k_ ≠ a6 ∧ k_ ≠ b3) HB g0 (fun k_ d6 => ⟨Or.elim d6 (fun a9 => Or.elim a9 (fun a9 => a9.1.1) (fun a9 => a9.1.1)) (fun f5 => (.inr (Nat.le_trans (q0m (pB HB.out)) f5))), Or.elim d6 (fun a9 => Or.elim a9 (fun a9 => a9.1.2) (fun a9 => a9.1.2)) (fB a0), Or.elim d6 (fun a9 => Or.elim a9 (fun a9 => a9.2) (fun a9 => a9.2)) (fB a5)⟩); have d7 := vL (ok' := fun k_ => ((b1 k_ ∨ b2 k_) ∨ w.heap.size ≤ k_) ∧ k_ ≠ a6 ∧ k_ ≠ b3) HB e8 (fun k_ d6 => ⟨Or.elim d6 (fun a9 => Or.elim a9 (fun a9 => a9.1.1) (fun a9 => a9.1.1)) (fun f5 => (.inr (Nat.le_trans (q0m (pB HB.out)) f5))), Or.elim d6 (fun a9 => Or.elim a9 (fun a9 => a9.1.2) (fun a9 => a9.1.2)) (fB a0), Or.elim d6 (fun a9 => Or.elim a9 (fun a9 => a9.2) (fun a9 => a9.2)) (fB a5)⟩); replace a0 := kB a0 hb; replace a5 := kB a5 hb; replace HB := bS HB hb; (try clear hb); (try clear g0); (try clear e8); have k8 := y5 a0; obtain ⟨t8, u0, p1⟩ := Kd.V_slice e6.out; subst p1; obtain ⟨t9, u1, p2⟩ := Kd.V_slice d7.out; subst p2; have k9 := y5 a5))
 refine bodyPost_ret (q1h rfl _ _ b3 27 #[.string (⟨#[]⟩ : ByteArray), .string (⟨#[]⟩ : ByteArray), .slice none 0 0, .int .i64 0, .slice none 0 0] (0, 0) _ rfl (pP a5.out) Try.underlying27 rfl (by kernel_rfl)) rfl ?_
 exact ⟨_, _, by first | rfl | (simp [q1b, q1a] <;> rfl) | (simp [*, q1b, q1a] <;> rfl), Kd.V_nil _ _ _ _ _, Kd.V_nil _ _ _ _ _, pB HB.out⟩
def Gb.f (k : Nat) (a7 : ByteArray) (a8 : ByteArray) (b0 : List (S49)) (a9 : Int) (b1 : List (S51)) (a1 : Int) (a2 : Int) : Option (Bool) := (Gl.f k a7 a8 b0 a9 b1).bind fun a0 => ((Gp.f k a0.1 a0.2.1 a0.2.2.1 a0.2.2.2.1 a0.2.2.2.2 a1 a2).bind fun a3 => ((Gm.f k a0.1 a0.2.1 a0.2.2.1 a0.2.2.2.1 a0.2.2.2.2 a1).bind fun a4 => ((Fa.f k a0.1 a0.2.1 a0.2.2.1 a0.2.2.2.1 a0.2.2.2.2).bind fun b2 => (if b2 = true then ((Fb.f k a0.1 a0.2.1 a0.2.2.1 a0.2.2.2.1 a0.2.2.2.2 a1 a2).bind fun a5 => ((Fx.f k a0.1 a0.2.1 a0.2.2.1 a0.2.2.2.1 a0.2.2.2.2 a1).bind fun a6 => ((Ge.f k).bind fun b6 => (if b6 = true then (if a3.2.2.2.2.2.2 = a5.2.2.2.2.2.2 then (if a3.2.2.2.2.2.1 = a5.2.2.2.2.2.1 then ((Fy.f k a3.1 a3.2.1 a3.2.2.1 a3.2.2.2.1 a3.2.2.2.2.1 a5.1 a5.2.1 a5.2.2.1 a5.2.2.2.1 a5.2.2.2.2.1).bind fun b7 => (if b7 = true then (if a4.2.2.2.2.2 = a6.2.2.2.2.2 then ((Fy.f k a4.1 a4.2.1 a4.2.2.1 a4.2.2.2.1 a4.2.2.2.2.1 a6.1 a6.2.1 a6.2.2.1 a6.2.2.2.1 a6.2.2.2.2.1).bind fun b8 => (some b8)) else (none)) else (none))) else (none)) else (none)) else (none))))) else ((Ge.f k).bind fun b3 => (if b3 = true then (if a3.2.2.2.2.2.2 = 1 then (if a4.2.2.2.2.2 = 1 then (if a3.2.2.2.2.2.1 = 0 then ((Fy.f k a3.1 a3.2.1 a3.2.2.1 a3.2.2.2.1 a3.2.2.2.2.1 (⟨#[]⟩ : ByteArray) (⟨#[]⟩ : ByteArray) ([] : List (S49)) 0 ([] : List (S51))).bind fun b4 => (if b4 = true then ((Fy.f k a4.1 a4.2.1 a4.2.2.1 a4.2.2.2.1 a4.2.2.2.2.1 (⟨#[]⟩ : ByteArray) (⟨#[]⟩ : ByteArray) ([] : List (S49)) 0 ([] : List (S51))).bind fun b5 => (some b5)) else (none))) else (none)) else (none)) else (none)) else (none)))))))
set_option maxHeartbeats 8000000 in
set_option maxRecDepth 100000 in
theorem Gb.calls (k : Nat) (f7 : ByteArray) (f8 : ByteArray) (h2 : Option Addr) (i4 : Nat) (f0 : List (S49)) (f9 : Int) (h3 : Option Addr) (i5 : Nat) (f1 : List (S51)) (a1 : Int) (a2 : Int) (r : Bool) (w : World) (k3 : Kd.C k49 w h2 f0.length f0) (k1 : f0.length ≤ i4) (k4 : Kd.C k51 w h3 f1.length f1) (k2 : f1.length ≤ i5) (h : Gb.f k f7 f8 f0 f9 f1 a1 a2 = some r) :
  Calls Try.prog 5 #[.agg #[.string f7, .string f8, .slice h2 f0.length i4, .int .i64 f9, .slice h3 f1.length i5], .int .i64 a1, .int .i64 a2] w fun e w' => e = .returned (.bool r) ∧ Below w.heap.size w w' := by
 have C7 := Try.underlying27
 have j9 := am k3
 have j7 := am k1
 clear k3 k1
 have k0 := am k4
 have j8 := am k2
 clear k4 k2
 have HB := am (Below.refl w.heap.size w)
 unfold Gb.f at h
 have H := h
 clear h
 replace H := Option.bind_eq_some_iff.mp H
 obtain ⟨⟨c7, c9, b4, d0, b5⟩, w8, H⟩ := H
 try dsimp only at H
 have A4 := am w8
 clear w8
 replace H := Option.bind_eq_some_iff.mp H
 obtain ⟨⟨f2, f3, e3, f4, e4, j0, j1⟩, w9, H⟩ := H
 try dsimp only at H
 have A5 := am w9
 clear w9
 replace H := Option.bind_eq_some_iff.mp H
 obtain ⟨⟨g2, g3, g4, g5, g6, j2⟩, x0, H⟩ := H
 try dsimp only at H
 have A6 := am x0
 clear x0
 replace H := Option.bind_eq_some_iff.mp H
 obtain ⟨v2, x2, H⟩ := H
 try dsimp only at H
 have A7 := am x2
 clear x2
 by_cases c8 : v2 = true
 ·
  subst c8
  rw [if_pos rfl] at H
  try dsimp only at H
  replace H := Option.bind_eq_some_iff.mp H
  obtain ⟨⟨j3, j4, j5, j6, d4, p7, p8⟩, x3, H⟩ := H
  try dsimp only at H
  have A9 := am x3
  clear x3
  replace H := Option.bind_eq_some_iff.mp H
  obtain ⟨⟨l4, l5, l6, l7, l8, p9⟩, m9, H⟩ := H
  try dsimp only at H
  have C0 := am m9
  clear m9
  replace H := Option.bind_eq_some_iff.mp H
  obtain ⟨v6, n0, H⟩ := H
  try dsimp only at H
  have C1 := am n0
  clear n0
  by_cases q0 : v6 = true
  ·
   subst q0
   rw [if_pos rfl] at H
   try dsimp only at H
   by_cases q1 : j1 = p8
   ·
    rw [if_pos q1] at H
    obtain ⟨x6, x7⟩ := qt q1
    clear q1
    by_cases q2 : j0 = p7
    ·
     rw [if_pos q2] at H
     obtain ⟨x8, x9⟩ := qt q2
     clear q2
     replace H := Option.bind_eq_some_iff.mp H
     obtain ⟨v7, n1, H⟩ := H
     try dsimp only at H
     have C2 := am n1
     clear n1
     by_cases q3 : v7 = true
     ·
      subst q3
      rw [if_pos rfl] at H
      try dsimp only at H
      by_cases q4 : j2 = p9
      ·
       rw [if_pos q4] at H
       obtain ⟨y0, y6⟩ := qt q4
       clear q4
       replace H := Option.bind_eq_some_iff.mp H
       obtain ⟨v8, n2, H⟩ := H
       try dsimp only at H
       have C3 := am n2
       clear n2
       obtain rfl := Option.some.inj H
       go_enter Try.func5, Try.ntmps5
       go_wp2_with (first | ((with_reducible refine gD 3 ?_); refine bz 3 #[.string f7, .string f8, .slice h2 f0.length i4, .int .i64 f9, .slice h3 f1.length i5] 27 HB ?_; clear HB; intro a5 hg E0 hb a0 d7 HB; clear hb hg; have r0 := y5 a0) | ((with_reducible refine gC 9 ?_); refine gL 18 Try.func9 #[.agg #[.string f7, .string f8, .slice h2 f0.length i4, .int .i64 f9, .slice h3 f1.length i5]] ?_; (with_reducible refine (Gl.calls k f7 f8 (fun k_ => k_ < w.heap.size) _ _ f0 f9 (fun k_ => k_ < w.heap.size) _ _ f1 c7 c9 b4 d0 b5 _ ?side1 ?side2 A4.out).mono ?_); (case side1 => exact Kd.V_mk j7.out (Kd.F_below (Kd.C_F k49_heap j9.out) (pB HB.out))); (case side2 => exact Kd.V_mk j8.out (Kd.F_below (Kd.C_F k51_heap k0.out) (pB HB.out))); rintro e D5 ⟨v9, w2, rfl, e9, d9, hb⟩; refine ⟨_, rfl, ?_⟩; have a3 := vL (ok' := fun k_ => k_ ≠ a5) HB e9 (fun k_ d1 => Or.elim d1 (fun a9 => Or.elim a9 (nw d7) (nw d7)) (fB a0)); have a4 := vL (ok' := fun k_ => k_ ≠ a5) HB d9 (fun k_ d1 => Or.elim d1 (fun a9 => Or.elim a9 (nw d7) (nw d7)) (fB a0)); replace a0 := kB a0 hb; replace HB := bS HB hb; (try clear hb); (try clear e9); (try clear d9); have r1 := y5 a0; obtain ⟨e5, e7, t7⟩ := Kd.V_slice a3.out; subst t7; obtain ⟨e6, e8, t8⟩ := Kd.V_slice a4.out; subst t8) | ((with_reducible refine q3c (t := 27) (p := 3) rfl ?_); refine q2p (t := 27) (p := 3) (v := ?vo_w25) (w1 := (((((D5.setCell ⟨a5, 0, none⟩ (.string c7)).setCell ⟨a5, 1, none⟩ (.string c9)).setCell ⟨a5, 2, none⟩ (.slice e5 b4.length e7)).setCell ⟨a5, 3, none⟩ (.int .i64 d0)).setCell ⟨a5, 4, none⟩ (.slice e6 b5.length e8))) ?hg ?ho ?hn ?hr ?_; (case ho => rfl); (case hg => rfl); (case hn => rfl); (case hr => first | (go_simp; done) | (go_simp; rfl)); intro t1 hw; have g7 : q0e (Kd.V k49 49 t1 w.heap.size (fun k_ => k_ ≠ a5) (.slice e5 b4.length e7) b4) := ⟨(by rw [hw]; exact (pV a3.out))⟩; have g8 : q0e (Kd.V k51 51 t1 w.heap.size (fun k_ => k_ ≠ a5) (.slice e6 b5.length e8) b5) := ⟨(by rw [hw]; exact (pV a4.out))⟩; have g9 : q0e (t1.heap[a5]? = some (.cells #[.string c7, .string c9, .slice e5 b4.length e7, .int .i64 d0, .slice e6 b5.length e8] 27 (0, 0))) := ⟨(by rw [hw]; exact (pP a0.out))⟩; have h0 : q0e (Below w.heap.size w t1) := ⟨(by rw [hw]; exact (pB HB.out))⟩; clear hw a3 a4 a0 HB; have a3 := g7; have a4 := g8; have a0 := g9; have HB := h0; clear g7 g8 g9 h0; have r2 := y5 a0) | ((with_reducible refine gC 23 ?_); refine gL 23 Try.func23 #[.agg #[.string c7, .string c9, .slice e5 b4.length e7, .int .i64 d0, .slice e6 b5.length e8], .int .i64 a1, .int .i64 a2] ?_; (with_reducible refine (Gp.calls k c7 c9 (fun k_ => k_ ≠ a5) _ _ b4 d0 (fun k_ => k_ ≠ a5) _ _ b5 a1 a2 f2 f3 e3 f4 e4 j0 j1 _ ?side1 ?side2 A5.out).mono ?_); (case side1 => exact a3.out); (case side2 => exact a4.out); rintro e E1 ⟨w3, w4, rfl, e9, d9, hb⟩; refine ⟨_, rfl, ?_⟩; replace a3 := vB a3 hb; replace a4 := vB a4 hb; have a7 := vL (ok' := fun k_ => k_ ≠ a5) HB e9 (fun k_ d1 => Or.elim d1 (fun a9 => Or.elim a9 (fun a9 => a9) (fun a9 => a9)) (fB a0)); have a8 := vL (ok' := fun k_ => k_ ≠ a5) HB d9 (fun k_ d1 => Or.elim d1 (fun a9 => Or.elim a9 (fun a9 => a9) (fun a9 => a9)) (fB a0)); replace a0 := kB a0 hb; replace HB := bS HB hb; (try clear hb); (try clear e9); (try clear d9)) | ((with_reducible refine gD 7 ?_); refine bz 7 #[.string (⟨#[]⟩ : ByteArray), .string (⟨#[]⟩ : ByteArray), .slice none 0 0, .int .i64 0, .slice none 0 0] 27 HB ?_; clear HB; intro b0 hg D6 hb a6 o1 HB; replace a3 := vE a3 hg hb; replace a4 := vE a4 hg hb; replace a7 := vE a7 hg hb; replace a8 := vE a8 hg hb; have h4 := nL hg a0; have e0 := nG hg a0; replace a0 := kB a0 hb; clear hb hg; have z8 := nn e0; have r3 := y5 a6; obtain ⟨i6, i8, t9⟩ := Kd.V_slice a7.out; subst t9; obtain ⟨i7, i9, u0⟩ := Kd.V_slice a8.out; subst u0) | ((with_reducible refine q3c (t := 27) (p := 7) rfl ?_); refine q2p (t := 27) (p := 7) (v := ?vo_w33) (w1 := (((((D6.setCell ⟨b0, 0, none⟩ (.string f2)).setCell ⟨b0, 1, none⟩ (.string f3)).setCell ⟨b0, 2, none⟩ (.slice i6 e3.length i8)).setCell ⟨b0, 3, none⟩ (.int .i64 f4)).setCell ⟨b0, 4, none⟩ (.slice i7 e4.length i9))) ?hg ?ho ?hn ?hr ?_; (case ho => rfl); (case hg => rfl); (case hn => rfl); (case hr => first | (go_simp; done) | (go_simp; rfl)); intro l9 hw; have g7 : q0e (Kd.V k49 49 l9 w.heap.size (fun k_ => k_ ≠ a5 ∧ k_ ≠ b0) (.slice e5 b4.length e7) b4) := ⟨(by rw [hw]; exact (pV a3.out))⟩; have g8 : q0e (Kd.V k51 51 l9 w.heap.size (fun k_ => k_ ≠ a5 ∧ k_ ≠ b0) (.slice e6 b5.length e8) b5) := ⟨(by rw [hw]; exact (pV a4.out))⟩; have g9 : q0e (Kd.V k49 49 l9 w.heap.size (fun k_ => k_ ≠ a5 ∧ k_ ≠ b0) (.slice i6 e3.length i8) e3) := ⟨(by rw [hw]; exact (pV a7.out))⟩; have h0 : q0e (Kd.V k51 51 l9 w.heap.size (fun k_ => k_ ≠ a5 ∧ k_ ≠ b0) (.slice i7 e4.length i9) e4) := ⟨(by rw [hw]; exact (pV a8.out))⟩; have k5 : q0e (l9.heap[a5]? = some (.cells #[.string c7, .string c9, .slice e5 b4.length e7, .int .i64 d0, .slice e6 b5.length e8] 27 (0, 0))) := ⟨(by rw [hw]; exact (pk a0.out))⟩; have k6 : q0e (l9.heap[b0]? = some (.cells #[.string f2, .string f3, .slice i6 e3.length i8, .int .i64 f4, .slice i7 e4.length i9] 27 (0, 0))) := ⟨(by rw [hw]; exact (pP a6.out))⟩; have k7 : q0e (Below w.heap.size w l9) := ⟨(by rw [hw]; exact (pB HB.out))⟩; clear hw a3 a4 a7 a8 a0 a6 HB; have a3 := g7; have a4 := g8; have a7 := g9; have a8 := h0; have a0 := k5; have a6 := k6; have HB := k7; clear g7 g8 g9 h0 k5 k6 k7; have r4 := y5 a0) | ((with_reducible refine gC 24 ?_); refine gL 30 Try.func24 #[.agg #[.string c7, .string c9, .slice e5 b4.length e7, .int .i64 d0, .slice e6 b5.length e8], .int .i64 a1] ?_; (with_reducible refine (Gm.calls k c7 c9 (fun k_ => (k_ ≠ a5 ∧ k_ ≠ b0)) _ _ b4 d0 (fun k_ => (k_ ≠ a5 ∧ k_ ≠ b0)) _ _ b5 a1 g2 g3 g4 g5 g6 j2 _ ?side1 ?side2 A6.out).mono ?_); (case side1 => exact a3.out); (case side2 => exact a4.out); rintro e E2 ⟨w5, w6, rfl, e9, d9, hb⟩; refine ⟨_, rfl, ?_⟩; replace a3 := vB a3 hb; replace a4 := vB a4 hb; replace a7 := vB a7 hb; replace a8 := vB a8 hb; have b2 := vL (ok' := fun k_ => k_ ≠ a5 ∧ k_ ≠ b0) HB e9 (fun k_ d1 => ⟨Or.elim d1 (fun a9 => Or.elim a9 (fun a9 => a9.1) (fun a9 => a9.1)) (fB a0), Or.elim d1 (fun a9 => Or.elim a9 (fun a9 => a9.2) (fun a9 => a9.2)) (fB a6)⟩); have b3 := vL (ok' := fun k_ => k_ ≠ a5 ∧ k_ ≠ b0) HB d9 (fun k_ d1 => ⟨Or.elim d1 (fun a9 => Or.elim a9 (fun a9 => a9.1) (fun a9 => a9.1)) (fB a0), Or.elim d1 (fun a9 => Or.elim a9 (fun a9 => a9.2) (fun a9 => a9.2)) (fB a6)⟩); replace a0 := kB a0 hb; replace a6 := kB a6 hb; replace HB := bS HB hb; (try clear hb); (try clear e9); (try clear d9)) | ((with_reducible refine gD 10 ?_); refine bz 10 #[.string (⟨#[]⟩ : ByteArray), .string (⟨#[]⟩ : ByteArray), .slice none 0 0, .int .i64 0, .slice none 0 0] 27 HB ?_; clear HB; intro b9 hg E3 hb b1 o2 HB; replace a3 := vE a3 hg hb; replace a4 := vE a4 hg hb; replace a7 := vE a7 hg hb; replace a8 := vE a8 hg hb; replace b2 := vE b2 hg hb; replace b3 := vE b3 hg hb; have h5 := nL hg a0; have e1 := nG hg a0; replace a0 := kB a0 hb; have h6 := nL hg a6; have e2 := nG hg a6; replace a6 := kB a6 hb; clear hb hg; have z9 := nn e1; have A1 := nn e2; have r5 := y5 b1; obtain ⟨n8, o5, u1⟩ := Kd.V_slice b2.out; subst u1; obtain ⟨n9, o6, u2⟩ := Kd.V_slice b3.out; subst u2; have r6 := y5 a0) | ((with_reducible refine gC 15 ?_); refine gL 34 Try.func15 #[.agg #[.string c7, .string c9, .slice e5 b4.length e7, .int .i64 d0, .slice e6 b5.length e8]] ?_; (with_reducible refine (Fa.calls k c7 c9 _ _ b4 d0 _ _ b5 true _ ?side1 ?side2 ?side3 ?side4 A7.out).mono ?_); (case side1 => exact (Kd.V_reads' (pV a3.out)).2.2); (case side2 => exact (Kd.V_reads' a3.out).2.1); (case side3 => exact (Kd.V_reads' (pV a4.out)).2.2); (case side4 => exact (Kd.V_reads' a4.out).2.1); rintro e E4 ⟨rfl, hb⟩; refine ⟨_, rfl, ?_⟩; replace a3 := vB a3 hb; replace a4 := vB a4 hb; replace a7 := vB a7 hb; replace a8 := vB a8 hb; replace b2 := vB b2 hb; replace b3 := vB b3 hb; replace a0 := kB a0 hb; replace a6 := kB a6 hb; replace b1 := am (q0c (g := b9) (o := .cells #[.string g2, .string g3, .slice n8 g4.length o5, .int .i64 g5, .slice n9 g6.length o6] 27 (0, 0)) (pP b1.out) hb); replace HB := bS HB hb; (try clear hb); have r7 := y5 a0) | ((with_reducible refine gC 25 ?_); refine gL 63 Try.func25 #[.agg #[.string c7, .string c9, .slice e5 b4.length e7, .int .i64 d0, .slice e6 b5.length e8], .int .i64 a1, .int .i64 a2] ?_; (with_reducible refine (Fb.calls k c7 c9 (fun k_ => ((k_ ≠ a5 ∧ k_ ≠ b0) ∧ k_ ≠ b9)) _ _ b4 d0 (fun k_ => ((k_ ≠ a5 ∧ k_ ≠ b0) ∧ k_ ≠ b9)) _ _ b5 a1 a2 j3 j4 j5 j6 d4 p7 p8 _ ?side1 ?side2 A9.out).mono ?_); (case side1 => exact a3.out); (case side2 => exact a4.out); rintro e E5 ⟨C8, w7, rfl, e9, d9, hb⟩; refine ⟨_, rfl, ?_⟩; replace a3 := am (Kd.V_elder' (pV a3.out) (Kd.R_base d9) hb); replace a4 := am (Kd.V_elder' (pV a4.out) (Kd.R_base d9) hb); replace a7 := am (Kd.V_elder' (pV a7.out) (Kd.R_base d9) hb); replace a8 := am (Kd.V_elder' (pV a8.out) (Kd.R_base d9) hb); replace b2 := am (Kd.V_elder' (pV b2.out) (Kd.R_base d9) hb); replace b3 := am (Kd.V_elder' (pV b3.out) (Kd.R_base d9) hb); have b8 := vL (ok' := fun k_ => some k_ ≠ (w7 : Value).ownBlock ∧ k_ ≠ a5 ∧ k_ ≠ b0 ∧ k_ ≠ b9) HB e9 (fun k_ d1 => ⟨d1.2, Or.elim d1.1 (fun a9 => Or.elim a9 (fun a9 => a9.1.1) (fun a9 => a9.1.1)) (fB a0), Or.elim d1.1 (fun a9 => Or.elim a9 (fun a9 => a9.1.2) (fun a9 => a9.1.2)) (fB a6), Or.elim d1.1 (fun a9 => Or.elim a9 (fun a9 => a9.2) (fun a9 => a9.2)) (fB b1)⟩); have b7 := am (Kd.R_lower (Kd.R_mono (ok' := fun k_ => True) d9 (fun _ d1 => trivial)) (q0m (pB HB.out))); replace a0 := kB a0 hb; replace a6 := kB a6 hb; replace b1 := kB b1 hb; replace HB := bS HB hb; (try clear hb); (try clear e9); (try clear d9)) | ((with_reducible refine gD 12 ?_); refine bz 12 #[.string (⟨#[]⟩ : ByteArray), .string (⟨#[]⟩ : ByteArray), .slice none 0 0, .int .i64 0, .slice none 0 0] 27 HB ?_; clear HB; intro c6 hg D7 hb b6 x4 HB; replace a3 := vE a3 hg hb; replace a4 := vE a4 hg hb; replace a7 := vE a7 hg hb; replace a8 := vE a8 hg hb; replace b2 := vE b2 hg hb; replace b3 := vE b3 hg hb; replace b8 := vE b8 hg hb; replace b7 := am (Kd.R_below (pR b7.out) hb); have m1 := nL hg a0; have h7 := nG hg a0; replace a0 := kB a0 hb; have m3 := nL hg a6; have h8 := nG hg a6; replace a6 := kB a6 hb; have m5 := nL hg b1; have h9 := nG hg b1; replace b1 := kB b1 hb; clear hb hg; have A2 := nn h7; have A3 := nn h8; have A8 := nn h9; have r8 := y5 b6; obtain ⟨o0, o7, u3⟩ := Kd.V_slice b8.out; subst u3; obtain ⟨d5, d8, u4⟩ := Kd.R_slice b7.out; subst u4) | ((with_reducible refine q3c (t := 27) (p := 12) rfl ?_); refine q2p (t := 27) (p := 12) (v := ?vo_w53) (w1 := (((((D7.setCell ⟨c6, 0, none⟩ (.string j3)).setCell ⟨c6, 1, none⟩ (.string j4)).setCell ⟨c6, 2, none⟩ (.slice o0 j5.length o7)).setCell ⟨c6, 3, none⟩ (.int .i64 j6)).setCell ⟨c6, 4, none⟩ (.slice d5 d4.length d8))) ?hg ?ho ?hn ?hr ?_; (case ho => rfl); (case hg => rfl); (case hn => rfl); (case hr => first | (go_simp; done) | (go_simp; rfl)); intro m8 hw; have g7 := vW (ok' := fun k_ => some k_ ≠ (.slice d5 d4.length d8 : Value).ownBlock ∧ k_ ≠ a5 ∧ k_ ≠ b0 ∧ k_ ≠ b9 ∧ k_ ≠ c6) hw a3; have g8 := vW (ok' := fun k_ => some k_ ≠ (.slice d5 d4.length d8 : Value).ownBlock ∧ k_ ≠ a5 ∧ k_ ≠ b0 ∧ k_ ≠ b9 ∧ k_ ≠ c6) hw a4; have g9 := vW (ok' := fun k_ => some k_ ≠ (.slice d5 d4.length d8 : Value).ownBlock ∧ k_ ≠ a5 ∧ k_ ≠ b0 ∧ k_ ≠ b9 ∧ k_ ≠ c6) hw a7; have h0 := vW (ok' := fun k_ => some k_ ≠ (.slice d5 d4.length d8 : Value).ownBlock ∧ k_ ≠ a5 ∧ k_ ≠ b0 ∧ k_ ≠ b9 ∧ k_ ≠ c6) hw a8; have k5 := vW (ok' := fun k_ => some k_ ≠ (.slice d5 d4.length d8 : Value).ownBlock ∧ k_ ≠ a5 ∧ k_ ≠ b0 ∧ k_ ≠ b9 ∧ k_ ≠ c6) hw b2; have k6 := vW (ok' := fun k_ => some k_ ≠ (.slice d5 d4.length d8 : Value).ownBlock ∧ k_ ≠ a5 ∧ k_ ≠ b0 ∧ k_ ≠ b9 ∧ k_ ≠ c6) hw b3; have k7 := vW (ok' := fun k_ => some k_ ≠ (.slice d5 d4.length d8 : Value).ownBlock ∧ k_ ≠ a5 ∧ k_ ≠ b0 ∧ k_ ≠ b9 ∧ k_ ≠ c6) hw b8; have B7 : q0e (Kd.R k51 51 m8 w.heap.size (fun _ => True) (.slice d5 d4.length d8) d4) := ⟨(by rw [hw]; exact (by exact Kd.R_mono (pR (Kd.R_types b7.out b6.out (by decide))) (fun _ hk => trivial)))⟩; have B8 : q0e (m8.heap[a5]? = some (.cells #[.string c7, .string c9, .slice e5 b4.length e7, .int .i64 d0, .slice e6 b5.length e8] 27 (0, 0))) := ⟨(by rw [hw]; exact (pk a0.out))⟩; have B9 : q0e (m8.heap[b0]? = some (.cells #[.string f2, .string f3, .slice i6 e3.length i8, .int .i64 f4, .slice i7 e4.length i9] 27 (0, 0))) := ⟨(by rw [hw]; exact (pk a6.out))⟩; have p4 : q0e (m8.heap[b9]? = some (.cells #[.string g2, .string g3, .slice n8 g4.length o5, .int .i64 g5, .slice n9 g6.length o6] 27 (0, 0))) := ⟨(by rw [hw]; exact (pk b1.out))⟩; have p5 : q0e (m8.heap[c6]? = some (.cells #[.string j3, .string j4, .slice o0 j5.length o7, .int .i64 j6, .slice d5 d4.length d8] 27 (0, 0))) := ⟨(by rw [hw]; exact (pP b6.out))⟩; have p6 : q0e (Below w.heap.size w m8) := ⟨(by rw [hw]; exact (pB HB.out))⟩; clear hw a3 a4 a7 a8 b2 b3 b8 b7 a0 a6 b1 b6 HB; have a3 := g7; have a4 := g8; have a7 := g9; have a8 := h0; have b2 := k5; have b3 := k6; have b8 := k7; have b7 := B7; have a0 := B8; have a6 := B9; have b1 := p4; have b6 := p5; have HB := p6; clear g7 g8 g9 h0 k5 k6 k7 B7 B8 B9 p4 p5 p6; have r9 := y5 a0) | ((with_reducible refine gC 26 ?_); refine gL 70 Try.func26 #[.agg #[.string c7, .string c9, .slice e5 b4.length e7, .int .i64 d0, .slice e6 b5.length e8], .int .i64 a1] ?_; (with_reducible refine (Fx.calls k c7 c9 (fun k_ => (some k_ ≠ (.slice d5 d4.length d8 : Value).ownBlock ∧ (k_ ≠ a5 ∧ (k_ ≠ b0 ∧ (k_ ≠ b9 ∧ k_ ≠ c6))))) _ _ b4 d0 (fun k_ => (some k_ ≠ (.slice d5 d4.length d8 : Value).ownBlock ∧ (k_ ≠ a5 ∧ (k_ ≠ b0 ∧ (k_ ≠ b9 ∧ k_ ≠ c6))))) _ _ b5 a1 l4 l5 l6 l7 l8 p9 _ ?side1 ?side2 C0.out).mono ?_); (case side1 => exact a3.out); (case side2 => exact a4.out); rintro e E6 ⟨C9, D0, rfl, e9, d9, hb⟩; refine ⟨_, rfl, ?_⟩; replace a3 := vB a3 hb; replace a4 := vB a4 hb; replace a7 := vB a7 hb; replace a8 := vB a8 hb; replace b2 := vB b2 hb; replace b3 := vB b3 hb; replace b8 := vB b8 hb; have d2 := vL (ok' := fun k_ => some k_ ≠ (.slice d5 d4.length d8 : Value).ownBlock ∧ k_ ≠ a5 ∧ k_ ≠ b0 ∧ k_ ≠ b9 ∧ k_ ≠ c6) HB e9 (fun k_ d1 => ⟨Or.elim d1 (fun a9 => Or.elim a9 (fun a9 => a9.1) (fun a9 => a9.1)) (fun v1 => (Kd.fresh' (Kd.R_lt (pR b7.out)) k_ v1)), Or.elim d1 (fun a9 => Or.elim a9 (fun a9 => a9.2.1) (fun a9 => a9.2.1)) (fB a0), Or.elim d1 (fun a9 => Or.elim a9 (fun a9 => a9.2.2.1) (fun a9 => a9.2.2.1)) (fB a6), Or.elim d1 (fun a9 => Or.elim a9 (fun a9 => a9.2.2.2.1) (fun a9 => a9.2.2.2.1)) (fB b1), Or.elim d1 (fun a9 => Or.elim a9 (fun a9 => a9.2.2.2.2) (fun a9 => a9.2.2.2.2)) (fB b6)⟩); have d3 := vL (ok' := fun k_ => some k_ ≠ (.slice d5 d4.length d8 : Value).ownBlock ∧ k_ ≠ a5 ∧ k_ ≠ b0 ∧ k_ ≠ b9 ∧ k_ ≠ c6) HB d9 (fun k_ d1 => ⟨Or.elim d1 (fun a9 => Or.elim a9 (fun a9 => a9.1) (fun a9 => a9.1)) (fun v1 => (Kd.fresh' (Kd.R_lt (pR b7.out)) k_ v1)), Or.elim d1 (fun a9 => Or.elim a9 (fun a9 => a9.2.1) (fun a9 => a9.2.1)) (fB a0), Or.elim d1 (fun a9 => Or.elim a9 (fun a9 => a9.2.2.1) (fun a9 => a9.2.2.1)) (fB a6), Or.elim d1 (fun a9 => Or.elim a9 (fun a9 => a9.2.2.2.1) (fun a9 => a9.2.2.2.1)) (fB b1), Or.elim d1 (fun a9 => Or.elim a9 (fun a9 => a9.2.2.2.2) (fun a9 => a9.2.2.2.2)) (fB b6)⟩); replace b7 := am (Kd.R_below (pR b7.out) hb); replace a0 := kB a0 hb; replace a6 := kB a6 hb; replace b1 := kB b1 hb; replace b6 := kB b6 hb; replace HB := bS HB hb; (try clear hb); (try clear e9); (try clear d9)) | ((with_reducible refine gD 15 ?_); refine bz 15 #[.string (⟨#[]⟩ : ByteArray), .string (⟨#[]⟩ : ByteArray), .slice none 0 0, .int .i64 0, .slice none 0 0] 27 HB ?_; clear HB; intro p0 hg E7 hb d6 x5 HB; replace a3 := vE a3 hg hb; replace a4 := vE a4 hg hb; replace a7 := vE a7 hg hb; replace a8 := vE a8 hg hb; replace b2 := vE b2 hg hb; replace b3 := vE b3 hg hb; replace b8 := vE b8 hg hb; replace b7 := am (Kd.R_below (pR b7.out) hb); replace d2 := vE d2 hg hb; replace d3 := vE d3 hg hb; have m2 := nL hg a0; have i0 := nG hg a0; replace a0 := kB a0 hb; have m4 := nL hg a6; have i1 := nG hg a6; replace a6 := kB a6 hb; have m6 := nL hg b1; have i2 := nG hg b1; replace b1 := kB b1 hb; have m7 := nL hg b6; have i3 := nG hg b6; replace b6 := kB b6 hb; clear hb hg; have B0 := nn i0; have B1 := nn i1; have B2 := nn i2; have B3 := nn i3; have s0 := y5 d6; obtain ⟨t3, t5, u5⟩ := Kd.V_slice d2.out; subst u5; obtain ⟨t4, t6, u6⟩ := Kd.V_slice d3.out; subst u6) | ((with_reducible refine gC 16 ?_); refine gL 73 Try.func16 #[] ?_; (with_reducible refine (Ge.calls k  true _ C1.out).mono ?_); rintro e E8 ⟨rfl, hb⟩; refine ⟨_, rfl, ?_⟩; replace a3 := vB a3 hb; replace a4 := vB a4 hb; replace a7 := vB a7 hb; replace a8 := vB a8 hb; replace b2 := vB b2 hb; replace b3 := vB b3 hb; replace b8 := vB b8 hb; replace b7 := am (Kd.R_below ((Kd.R_mono (pR (Kd.R_types b7.out d6.out (by decide))) (fun _ h_ => h_.1))) hb); replace d2 := vB d2 hb; replace d3 := vB d3 hb; replace a0 := kB a0 hb; replace a6 := kB a6 hb; replace b1 := kB b1 hb; replace b6 := kB b6 hb; replace d6 := am (q0c (g := p0) (o := .cells #[.string l4, .string l5, .slice t3 l6.length t5, .int .i64 l7, .slice t4 l8.length t6] 27 (0, 0)) (pP d6.out) hb); replace HB := bS HB hb; (try clear hb); have s1 := y5 a6; have s2 := y5 b6) | (go_at_call 12; (with_reducible refine (Fy.calls k f2 f3 _ _ e3 f4 _ _ e4 j3 j4 _ _ j5 j6 _ _ d4 true _ ?side1 ?side2 ?side3 ?side4 ?side5 ?side6 ?side7 ?side8 C2.out).mono ?_); (case side1 => exact pC ((Kd.V_reads' a7.out).2.2)); (case side2 => exact (Kd.V_reads' a7.out).2.1); (case side3 => exact pC ((Kd.V_reads' a8.out).2.2)); (case side4 => exact (Kd.V_reads' a8.out).2.1); (case side5 => exact pC ((Kd.V_reads' b8.out).2.2)); (case side6 => exact (Kd.V_reads' b8.out).2.1); (case side7 => exact pC ((Kd.R_reads' b7.out).2.2)); (case side8 => exact (Kd.R_reads' b7.out).2.1); rintro e E9 ⟨rfl, hb⟩; replace a3 := vB a3 hb; replace a4 := vB a4 hb; replace a7 := vB a7 hb; replace a8 := vB a8 hb; replace b2 := vB b2 hb; replace b3 := vB b3 hb; replace b8 := vB b8 hb; replace b7 := am (Kd.R_below (pR b7.out) hb); replace d2 := vB d2 hb; replace d3 := vB d3 hb; replace a0 := kB a0 hb; replace a6 := kB a6 hb; replace b1 := kB b1 hb; replace b6 := kB b6 hb; replace d6 := kB d6 hb; replace HB := bS HB hb; (try clear hb); have s3 := y5 b1; have s4 := y5 d6) | (go_at_call 12; (with_reducible refine (Fy.calls k g2 g3 _ _ g4 g5 _ _ g6 l4 l5 _ _ l6 l7 _ _ l8 v8 _ ?side1 ?side2 ?side3 ?side4 ?side5 ?side6 ?side7 ?side8 C3.out).mono ?_); (case side1 => exact pC ((Kd.V_reads' b2.out).2.2)); (case side2 => exact (Kd.V_reads' b2.out).2.1); (case side3 => exact pC ((Kd.V_reads' b3.out).2.2)); (case side4 => exact (Kd.V_reads' b3.out).2.1); (case side5 => exact pC ((Kd.V_reads' d2.out).2.2)); (case side6 => exact (Kd.V_reads' d2.out).2.1); (case side7 => exact pC ((Kd.V_reads' d3.out).2.2)); (case side8 => exact (Kd.V_reads' d3.out).2.1); rintro e H0 ⟨rfl, hb⟩; replace a3 := vB a3 hb; replace a4 := vB a4 hb; replace a7 := vB a7 hb; replace a8 := vB a8 hb; replace b2 := vB b2 hb; replace b3 := vB b3 hb; replace b8 := vB b8 hb; replace b7 := am (Kd.R_below (pR b7.out) hb); replace d2 := vB d2 hb; replace d3 := vB d3 hb; replace a0 := kB a0 hb; replace a6 := kB a6 hb; replace b1 := kB b1 hb; replace b6 := kB b6 hb; replace d6 := kB d6 hb; replace HB := bS HB hb; (try clear hb)))
       go_ret
       exact ⟨er, pB HB.out⟩
      rw [if_neg q4] at H
      exact absurd H (by simp)
     replace q3 := Bool.eq_false_iff.mpr q3
     subst q3
     rw [if_neg (show ¬ (false = true) by decide)] at H
     try dsimp only at H
     exact absurd H (by simp)
    rw [if_neg q2] at H
    exact absurd H (by simp)
   rw [if_neg q1] at H
   exact absurd H (by simp)
  replace q0 := Bool.eq_false_iff.mpr q0
  subst q0
  rw [if_neg (show ¬ (false = true) by decide)] at H
  try dsimp only at H
  exact absurd H (by simp)
 replace c8 := Bool.eq_false_iff.mpr c8
 subst c8
 rw [if_neg (show ¬ (false = true) by decide)] at H
 try dsimp only at H
 replace H := Option.bind_eq_some_iff.mp H
 obtain ⟨v3, n3, H⟩ := H
 try dsimp only at H
 have C4 := am n3
 clear n3
 by_cases q5 : v3 = true
 ·
  subst q5
  rw [if_pos rfl] at H
  try dsimp only at H
  by_cases q6 : j1 = 1
  ·
   rw [if_pos q6] at H
   obtain ⟨y7, y8⟩ := qt q6
   clear q6
   by_cases q7 : j2 = 1
   ·
    rw [if_pos q7] at H
    obtain ⟨y9, z0⟩ := qt q7
    clear q7
    by_cases q8 : j0 = 0
    ·
     rw [if_pos q8] at H
     obtain ⟨z6, z7⟩ := qt q8
     clear q8
     replace H := Option.bind_eq_some_iff.mp H
     obtain ⟨v4, n4, H⟩ := H
     try dsimp only at H
     have C5 := am n4
     clear n4
     by_cases q9 : v4 = true
     ·
      subst q9
      rw [if_pos rfl] at H
      try dsimp only at H
      replace H := Option.bind_eq_some_iff.mp H
      obtain ⟨v5, n5, H⟩ := H
      try dsimp only at H
      have C6 := am n5
      clear n5
      obtain rfl := Option.some.inj H
      go_enter Try.func5, Try.ntmps5
      have k8 : True := trivial; have k9 : True := trivial; go_wp2_with (first | ((with_reducible refine gD 3 ?_); refine bz 3 #[.string f7, .string f8, .slice h2 f0.length i4, .int .i64 f9, .slice h3 f1.length i5] 27 HB ?_; clear HB; intro a5 hg H1 hb a0 d7 HB; clear hb hg; have s5 := y5 a0) | ((with_reducible refine gC 9 ?_); refine gL 18 Try.func9 #[.agg #[.string f7, .string f8, .slice h2 f0.length i4, .int .i64 f9, .slice h3 f1.length i5]] ?_; (with_reducible refine (Gl.calls k f7 f8 (fun k_ => k_ < w.heap.size) _ _ f0 f9 (fun k_ => k_ < w.heap.size) _ _ f1 c7 c9 b4 d0 b5 _ ?side1 ?side2 A4.out).mono ?_); (case side1 => exact Kd.V_mk j7.out (Kd.F_below (Kd.C_F k49_heap j9.out) (pB HB.out))); (case side2 => exact Kd.V_mk j8.out (Kd.F_below (Kd.C_F k51_heap k0.out) (pB HB.out))); rintro e D8 ⟨v9, w2, rfl, e9, d9, hb⟩; refine ⟨_, rfl, ?_⟩; have a3 := vL (ok' := fun k_ => k_ ≠ a5) HB e9 (fun k_ d1 => Or.elim d1 (fun a9 => Or.elim a9 (nw d7) (nw d7)) (fB a0)); have a4 := vL (ok' := fun k_ => k_ ≠ a5) HB d9 (fun k_ d1 => Or.elim d1 (fun a9 => Or.elim a9 (nw d7) (nw d7)) (fB a0)); replace a0 := kB a0 hb; replace HB := bS HB hb; (try clear hb); (try clear e9); (try clear d9); have s6 := y5 a0; obtain ⟨f5, g0, u7⟩ := Kd.V_slice a3.out; subst u7; obtain ⟨f6, g1, u8⟩ := Kd.V_slice a4.out; subst u8) | ((with_reducible refine q3c (t := 27) (p := 3) rfl ?_); refine q2p (t := 27) (p := 3) (v := ?vo_w85) (w1 := (((((D8.setCell ⟨a5, 0, none⟩ (.string c7)).setCell ⟨a5, 1, none⟩ (.string c9)).setCell ⟨a5, 2, none⟩ (.slice f5 b4.length g0)).setCell ⟨a5, 3, none⟩ (.int .i64 d0)).setCell ⟨a5, 4, none⟩ (.slice f6 b5.length g1))) ?hg ?ho ?hn ?hr ?_; (case ho => rfl); (case hg => rfl); (case hn => rfl); (case hr => first | (go_simp; done) | (go_simp; rfl)); intro t2 hw; have g7 : q0e (Kd.V k49 49 t2 w.heap.size (fun k_ => k_ ≠ a5) (.slice f5 b4.length g0) b4) := ⟨(by rw [hw]; exact (pV a3.out))⟩; have g8 : q0e (Kd.V k51 51 t2 w.heap.size (fun k_ => k_ ≠ a5) (.slice f6 b5.length g1) b5) := ⟨(by rw [hw]; exact (pV a4.out))⟩; have g9 : q0e (t2.heap[a5]? = some (.cells #[.string c7, .string c9, .slice f5 b4.length g0, .int .i64 d0, .slice f6 b5.length g1] 27 (0, 0))) := ⟨(by rw [hw]; exact (pP a0.out))⟩; have h0 : q0e (Below w.heap.size w t2) := ⟨(by rw [hw]; exact (pB HB.out))⟩; clear hw a3 a4 a0 HB; have a3 := g7; have a4 := g8; have a0 := g9; have HB := h0; clear g7 g8 g9 h0; have s7 := y5 a0) | ((with_reducible refine gC 23 ?_); refine gL 23 Try.func23 #[.agg #[.string c7, .string c9, .slice f5 b4.length g0, .int .i64 d0, .slice f6 b5.length g1], .int .i64 a1, .int .i64 a2] ?_; (with_reducible refine (Gp.calls k c7 c9 (fun k_ => k_ ≠ a5) _ _ b4 d0 (fun k_ => k_ ≠ a5) _ _ b5 a1 a2 f2 f3 e3 f4 e4 j0 j1 _ ?side1 ?side2 A5.out).mono ?_); (case side1 => exact a3.out); (case side2 => exact a4.out); rintro e H2 ⟨w3, w4, rfl, e9, d9, hb⟩; refine ⟨_, rfl, ?_⟩; replace a3 := vB a3 hb; replace a4 := vB a4 hb; have a7 := vL (ok' := fun k_ => k_ ≠ a5) HB e9 (fun k_ d1 => Or.elim d1 (fun a9 => Or.elim a9 (fun a9 => a9) (fun a9 => a9)) (fB a0)); have a8 := vL (ok' := fun k_ => k_ ≠ a5) HB d9 (fun k_ d1 => Or.elim d1 (fun a9 => Or.elim a9 (fun a9 => a9) (fun a9 => a9)) (fB a0)); replace a0 := kB a0 hb; replace HB := bS HB hb; (try clear hb); (try clear e9); (try clear d9)) | ((with_reducible refine gD 7 ?_); refine bz 7 #[.string (⟨#[]⟩ : ByteArray), .string (⟨#[]⟩ : ByteArray), .slice none 0 0, .int .i64 0, .slice none 0 0] 27 HB ?_; clear HB; intro b0 hg D9 hb a6 o1 HB; replace a3 := vE a3 hg hb; replace a4 := vE a4 hg hb; replace a7 := vE a7 hg hb; replace a8 := vE a8 hg hb; have h4 := nL hg a0; have e0 := nG hg a0; replace a0 := kB a0 hb; clear hb hg; have B4 := nn e0; have s8 := y5 a6; obtain ⟨l0, l2, u9⟩ := Kd.V_slice a7.out; subst u9; obtain ⟨l1, l3, v0⟩ := Kd.V_slice a8.out; subst v0) | ((with_reducible refine q3c (t := 27) (p := 7) rfl ?_); refine q2p (t := 27) (p := 7) (v := ?vo_w93) (w1 := (((((D9.setCell ⟨b0, 0, none⟩ (.string f2)).setCell ⟨b0, 1, none⟩ (.string f3)).setCell ⟨b0, 2, none⟩ (.slice l0 e3.length l2)).setCell ⟨b0, 3, none⟩ (.int .i64 f4)).setCell ⟨b0, 4, none⟩ (.slice l1 e4.length l3))) ?hg ?ho ?hn ?hr ?_; (case ho => rfl); (case hg => rfl); (case hn => rfl); (case hr => first | (go_simp; done) | (go_simp; rfl)); intro m0 hw; have g7 : q0e (Kd.V k49 49 m0 w.heap.size (fun k_ => k_ ≠ a5 ∧ k_ ≠ b0) (.slice f5 b4.length g0) b4) := ⟨(by rw [hw]; exact (pV a3.out))⟩; have g8 : q0e (Kd.V k51 51 m0 w.heap.size (fun k_ => k_ ≠ a5 ∧ k_ ≠ b0) (.slice f6 b5.length g1) b5) := ⟨(by rw [hw]; exact (pV a4.out))⟩; have g9 : q0e (Kd.V k49 49 m0 w.heap.size (fun k_ => k_ ≠ a5 ∧ k_ ≠ b0) (.slice l0 e3.length l2) e3) := ⟨(by rw [hw]; exact (pV a7.out))⟩; have h0 : q0e (Kd.V k51 51 m0 w.heap.size (fun k_ => k_ ≠ a5 ∧ k_ ≠ b0) (.slice l1 e4.length l3) e4) := ⟨(by rw [hw]; exact (pV a8.out))⟩; have k5 : q0e (m0.heap[a5]? = some (.cells #[.string c7, .string c9, .slice f5 b4.length g0, .int .i64 d0, .slice f6 b5.length g1] 27 (0, 0))) := ⟨(by rw [hw]; exact (pk a0.out))⟩; have k6 : q0e (m0.heap[b0]? = some (.cells #[.string f2, .string f3, .slice l0 e3.length l2, .int .i64 f4, .slice l1 e4.length l3] 27 (0, 0))) := ⟨(by rw [hw]; exact (pP a6.out))⟩; have k7 : q0e (Below w.heap.size w m0) := ⟨(by rw [hw]; exact (pB HB.out))⟩; clear hw a3 a4 a7 a8 a0 a6 HB; have a3 := g7; have a4 := g8; have a7 := g9; have a8 := h0; have a0 := k5; have a6 := k6; have HB := k7; clear g7 g8 g9 h0 k5 k6 k7; have s9 := y5 a0) | ((with_reducible refine gC 24 ?_); refine gL 30 Try.func24 #[.agg #[.string c7, .string c9, .slice f5 b4.length g0, .int .i64 d0, .slice f6 b5.length g1], .int .i64 a1] ?_; (with_reducible refine (Gm.calls k c7 c9 (fun k_ => (k_ ≠ a5 ∧ k_ ≠ b0)) _ _ b4 d0 (fun k_ => (k_ ≠ a5 ∧ k_ ≠ b0)) _ _ b5 a1 g2 g3 g4 g5 g6 j2 _ ?side1 ?side2 A6.out).mono ?_); (case side1 => exact a3.out); (case side2 => exact a4.out); rintro e H3 ⟨w5, w6, rfl, e9, d9, hb⟩; refine ⟨_, rfl, ?_⟩; replace a3 := vB a3 hb; replace a4 := vB a4 hb; replace a7 := vB a7 hb; replace a8 := vB a8 hb; have b2 := vL (ok' := fun k_ => k_ ≠ a5 ∧ k_ ≠ b0) HB e9 (fun k_ d1 => ⟨Or.elim d1 (fun a9 => Or.elim a9 (fun a9 => a9.1) (fun a9 => a9.1)) (fB a0), Or.elim d1 (fun a9 => Or.elim a9 (fun a9 => a9.2) (fun a9 => a9.2)) (fB a6)⟩); have b3 := vL (ok' := fun k_ => k_ ≠ a5 ∧ k_ ≠ b0) HB d9 (fun k_ d1 => ⟨Or.elim d1 (fun a9 => Or.elim a9 (fun a9 => a9.1) (fun a9 => a9.1)) (fB a0), Or.elim d1 (fun a9 => Or.elim a9 (fun a9 => a9.2) (fun a9 => a9.2)) (fB a6)⟩); replace a0 := kB a0 hb; replace a6 := kB a6 hb; replace HB := bS HB hb; (try clear hb); (try clear e9); (try clear d9)) | ((with_reducible refine gD 10 ?_); refine bz 10 #[.string (⟨#[]⟩ : ByteArray), .string (⟨#[]⟩ : ByteArray), .slice none 0 0, .int .i64 0, .slice none 0 0] 27 HB ?_; clear HB; intro b9 hg H4 hb b1 o2 HB; replace a3 := vE a3 hg hb; replace a4 := vE a4 hg hb; replace a7 := vE a7 hg hb; replace a8 := vE a8 hg hb; replace b2 := vE b2 hg hb; replace b3 := vE b3 hg hb; have h5 := nL hg a0; have e1 := nG hg a0; replace a0 := kB a0 hb; have h6 := nL hg a6; have e2 := nG hg a6; replace a6 := kB a6 hb; clear hb hg; have B5 := nn e1; have B6 := nn e2; have t0 := y5 b1; obtain ⟨n6, o3, o8⟩ := Kd.V_slice b2.out; subst o8; obtain ⟨n7, o4, o9⟩ := Kd.V_slice b3.out; subst o9; have p1 := y5 a0) | ((with_reducible refine gC 15 ?_); refine gL 34 Try.func15 #[.agg #[.string c7, .string c9, .slice f5 b4.length g0, .int .i64 d0, .slice f6 b5.length g1]] ?_; (with_reducible refine (Fa.calls k c7 c9 _ _ b4 d0 _ _ b5 false _ ?side1 ?side2 ?side3 ?side4 A7.out).mono ?_); (case side1 => exact (Kd.V_reads' (pV a3.out)).2.2); (case side2 => exact (Kd.V_reads' a3.out).2.1); (case side3 => exact (Kd.V_reads' (pV a4.out)).2.2); (case side4 => exact (Kd.V_reads' a4.out).2.1); rintro e D1 ⟨rfl, hb⟩; refine ⟨_, rfl, ?_⟩; replace a3 := vB a3 hb; replace a4 := vB a4 hb; replace a7 := vB a7 hb; replace a8 := vB a8 hb; replace b2 := vB b2 hb; replace b3 := vB b3 hb; replace a0 := kB a0 hb; replace a6 := kB a6 hb; replace b1 := am (q0c (g := b9) (o := .cells #[.string g2, .string g3, .slice n6 g4.length o3, .int .i64 g5, .slice n7 g6.length o4] 27 (0, 0)) (pP b1.out) hb); replace HB := bS HB hb; (try clear hb)) | ((with_reducible refine gC 16 ?_); refine gL 36 Try.func16 #[] ?_; (with_reducible refine (Ge.calls k  true _ C4.out).mono ?_); rintro e D2 ⟨rfl, hb⟩; refine ⟨_, rfl, ?_⟩; replace a3 := vB a3 hb; replace a4 := vB a4 hb; replace a7 := vB a7 hb; replace a8 := vB a8 hb; replace b2 := vB b2 hb; replace b3 := vB b3 hb; replace a0 := kB a0 hb; replace a6 := kB a6 hb; replace b1 := kB b1 hb; replace HB := bS HB hb; (try clear hb); have p2 := y5 a6) | (go_at_call 12; have _t := k8; clear _t k8; (refine (Fy.calls k f2 f3 _ _ e3 f4 _ _ e4 (⟨#[]⟩ : ByteArray) (⟨#[]⟩ : ByteArray) _ _ ([] : List (S49)) 0 _ _ ([] : List (S51)) true _ ?side1 ?side2 ?side3 ?side4 ?side5 ?side6 ?side7 ?side8 C5.out).mono ?_); (case side1 => exact pC ((Kd.V_reads' a7.out).2.2)); (case side2 => exact (Kd.V_reads' a7.out).2.1); (case side3 => exact pC ((Kd.V_reads' a8.out).2.2)); (case side4 => exact (Kd.V_reads' a8.out).2.1); (case side5 => exact Kd.C_nil _ _); (case side6 => exact Nat.le_refl _); (case side7 => exact Kd.C_nil _ _); (case side8 => exact Nat.le_refl _); rintro e D3 ⟨rfl, hb⟩; replace a3 := vB a3 hb; replace a4 := vB a4 hb; replace a7 := vB a7 hb; replace a8 := vB a8 hb; replace b2 := vB b2 hb; replace b3 := vB b3 hb; replace a0 := kB a0 hb; replace a6 := kB a6 hb; replace b1 := kB b1 hb; replace HB := bS HB hb; (try clear hb); have p3 := y5 b1) | (go_at_call 12; have _t := k9; clear _t k9; (refine (Fy.calls k g2 g3 _ _ g4 g5 _ _ g6 (⟨#[]⟩ : ByteArray) (⟨#[]⟩ : ByteArray) _ _ ([] : List (S49)) 0 _ _ ([] : List (S51)) v5 _ ?side1 ?side2 ?side3 ?side4 ?side5 ?side6 ?side7 ?side8 C6.out).mono ?_); (case side1 => exact pC ((Kd.V_reads' b2.out).2.2)); (case side2 => exact (Kd.V_reads' b2.out).2.1); (case side3 => exact pC ((Kd.V_reads' b3.out).2.2)); (case side4 => exact (Kd.V_reads' b3.out).2.1); (case side5 => exact Kd.C_nil _ _); (case side6 => exact Nat.le_refl _); (case side7 => exact Kd.C_nil _ _); (case side8 => exact Nat.le_refl _); rintro e D4 ⟨rfl, hb⟩; replace a3 := vB a3 hb; replace a4 := vB a4 hb; replace a7 := vB a7 hb; replace a8 := vB a8 hb; replace b2 := vB b2 hb; replace b3 := vB b3 hb; replace a0 := kB a0 hb; replace a6 := kB a6 hb; replace b1 := kB b1 hb; replace HB := bS HB hb; (try clear hb)))
      go_ret
      exact ⟨er, pB HB.out⟩
     replace q9 := Bool.eq_false_iff.mpr q9
     subst q9
     rw [if_neg (show ¬ (false = true) by decide)] at H
     try dsimp only at H
     exact absurd H (by simp)
    rw [if_neg q8] at H
    exact absurd H (by simp)
   rw [if_neg q7] at H
   exact absurd H (by simp)
  rw [if_neg q6] at H
  exact absurd H (by simp)
 replace q5 := Bool.eq_false_iff.mpr q5
 subst q5
 rw [if_neg (show ¬ (false = true) by decide)] at H
 try dsimp only at H
 exact absurd H (by simp)
end Go.Proofs.Ytabmkighhmchmaa.X
namespace Go.Proofs.Ytabmkighhmchmaa.X
open Go.RowKit Go.YW.PrintWords
def Gb.Pure : Prop := ∀ (x0 : S27) (a1 : Int) (a2 : Int), (x0.f0.size ≤ maxLen ∧ ((x0.f1.f0.size ≤ maxLen ∧ (x0.f1.f1.length ≤ maxLen ∧ ∀ a_ ∈ x0.f1.f1, ((a_.f0.length ≤ maxLen ∧ ∀ b_ ∈ a_.f0, (Lit.int .i64 b_).wf = true) ∧ (Lit.int .i64 a_.f1).wf = true ∧ (Lit.int .i64 a_.f2).wf = true ∧ (Lit.int .i64 a_.f3).wf = true)))) ∧ (Lit.int .i64 x0.f2).wf = true ∧ (x0.f3.length ≤ maxLen ∧ ∀ a_ ∈ x0.f3, ((Lit.int .i64 a_.f0).wf = true ∧ (Lit.int .i64 a_.f1).wf = true ∧ (Lit.int .i64 a_.f2).wf = true ∧ (Lit.int .i64 a_.f3).wf = true ∧ a_.f4.size ≤ maxLen))) → (Lit.int .i64 a1).wf = true → (Lit.int .i64 a2).wf = true → ∃ k, Gb.f k x0.f0 x0.f1.f0 x0.f1.f1 x0.f2 x0.f3 a1 a2 = some true
end Go.Proofs.Ytabmkighhmchmaa.X
namespace Go.Proofs.Ytabmkighhmchmaa.Pure
open Go.RowKit Go.Proofs.Ytabmkighhmchmaa.X Go.YW.PrintWords Go.YW.PrintLast
theorem q2l (xs : List S51) (i : Nat) (h : i < xs.length) : q0a xs (i : Int) = xs[i] := by
 simp [q0a, List.getD_eq_getElem?_getD, List.getElem?_eq_getElem h]
theorem rd49_nat (ts : List S49) (i : Nat) (h : i < ts.length) : q0d ts (i : Int) = ts[i] := by
 simp [q0d, List.getD_eq_getElem?_getD, List.getElem?_eq_getElem h]
theorem q1y (i : Nat) (h : i ≤ 1000000) : wrap64 ((i : Int) + 1) = ((i + 1 : Nat) : Int) := by unfold wrap64; omega
def hasB (c : Int) (xs : List S51) : Bool := xs.any fun s => decide (s.f0 = c)
theorem has_l0 (c : Int) (xs : List S51) (hl : xs.length ≤ 1000) : ∀ m i k : Nat, i + m = xs.length → m < k → Fi.l0 k c xs (xs.length : Int) (i : Int) = some (hasB c (xs.drop i)) := by
 intro m
 induction m with
 | zero =>
  intro i k hi hk
  obtain ⟨k, rfl⟩ : ∃ q, k = q + 1 := ⟨k - 1, by omega⟩
  rw [Fi.l0, if_neg (by omega), List.drop_eq_nil_of_le (by omega)]
  rfl
 | succ m ih =>
  intro i k hi hk
  obtain ⟨k, rfl⟩ : ∃ q, k = q + 1 := ⟨k - 1, by omega⟩
  rw [Fi.l0, if_pos (by omega), if_pos (by omega), if_pos (by omega), q2l xs i (by omega), List.drop_eq_getElem_cons (show i < xs.length by omega)]
  unfold hasB
  rw [List.any_cons]
  by_cases h : xs[i].f0 = c
  ·
   rw [if_pos h, decide_eq_true h, Bool.true_or]
  rw [if_neg h, decide_eq_false h, Bool.false_or, q1y i (by omega), ih (i + 1) k (by omega) (by omega)]
  rfl
theorem has_f (k : Nat) (ky nm : ByteArray) (ts : List S49) (is : Int) (xs : List S51) (c : Int) (hl : xs.length ≤ 1000) (hk : xs.length < k) : Fi.f k ky nm ts is xs c = some (hasB c xs) := by
 have h := has_l0 c xs hl xs.length 0 k (by omega) hk
 rw [List.drop_zero] at h
 exact h
theorem with_l0 (a0 : Nat) (s : S51) (ky nm : ByteArray) (ts : List S49) (is : Int) (xs : List S51) (hl : xs.length ≤ 1000) : ∀ (m i k : Nat) (a1 : List S51), i + m = xs.length → m < k → a1.length = i →
  Fm.l0 k (a0 : Int) xs (xs.length : Int) (i : Int) s.f0 s.f1 s.f2 s.f3 s.f4 ky nm ts is a1 = some (ky, nm, ts, is, a1 ++ (xs.set a0 s).drop i) := by
 intro m
 induction m with
 | zero =>
  intro i k a1 hi hk ha
  obtain ⟨k, rfl⟩ : ∃ q, k = q + 1 := ⟨k - 1, by omega⟩
  rw [Fm.l0, if_neg (by omega), List.drop_eq_nil_of_le (by rw [List.length_set]; omega), List.append_nil]
 | succ m ih =>
  intro i k a1 hi hk ha
  obtain ⟨k, rfl⟩ : ∃ q, k = q + 1 := ⟨k - 1, by omega⟩
  have hd : (xs.set a0 s).drop i = (if a0 = i then s else xs[i]) :: (xs.set a0 s).drop (i + 1) := by
   rw [List.drop_eq_getElem_cons (show i < (xs.set a0 s).length by rw [List.length_set]; omega), List.getElem_set]
  rw [Fm.l0, if_pos (by omega), if_pos (by omega), if_pos (by omega), q2l xs i (by omega), q1y i (by omega), hd]
  by_cases h : a0 = i
  ·
   rw [if_pos (by omega), if_pos (by omega), ih (i + 1) k _ (by omega) (by omega) (by simp; omega), if_pos h]
   simp
  rw [if_neg (by omega), if_pos (by omega), ih (i + 1) k _ (by omega) (by omega) (by simp; omega), if_neg h]
  simp
theorem with_f (k : Nat) (ky nm : ByteArray) (ts : List S49) (is : Int) (xs : List S51) (a0 : Nat) (s : S51) (hl : xs.length ≤ 1000) (hk : xs.length < k) :
  Fm.f k ky nm ts is xs (a0 : Int) s.f0 s.f1 s.f2 s.f3 s.f4 = some (ky, nm, ts, is, xs.set a0 s) := by
 have h := with_l0 a0 s ky nm ts is xs hl xs.length 0 k [] (by omega) hk rfl
 simpa [Fm.f] using h
def q3m (ts : List S49) (xs : List S51) (i : Nat) : Bool := (q0d ts (i : Int)).f0.all fun x => decide ((q0a xs x).f0 = 3)
def Wf (ts : List S49) (n : Nat) : Prop := ts.length = n ∧ n ≤ 10 ∧ ∀ i : Nat, i < n → (q0d ts (i : Int)).f0.length ≤ 10 ∧ ∀ x ∈ (q0d ts (i : Int)).f0, 0 ≤ x ∧ x < (n : Int)
theorem rdI_nat (l : List Int) (i : Nat) (h : i < l.length) : rd l (i : Int) = l[i] := by simp [rd, List.getD_eq_getElem?_getD, List.getElem?_eq_getElem h]
theorem isready_l0 (l : List Int) (ky nm : ByteArray) (ts : List S49) (is : Int) (xs : List S51) (hl : l.length ≤ 1000) (hx : ∀ x ∈ l, 0 ≤ x ∧ x < (xs.length : Int)) : ∀ m i k : Nat, i + m = l.length → m < k →
  Fo.l0 k l (l.length : Int) (i : Int) ky nm ts is xs = some ((l.drop i).all fun x => decide ((q0a xs x).f0 = 3)) := by
 intro m
 induction m with
 | zero =>
  intro i k hi hk
  obtain ⟨k, rfl⟩ : ∃ q, k = q + 1 := ⟨k - 1, by omega⟩
  rw [Fo.l0, if_neg (by omega), List.drop_eq_nil_of_le (by omega)]
  rfl
 | succ m ih =>
  intro i k hi hk
  obtain ⟨k, rfl⟩ : ∃ q, k = q + 1 := ⟨k - 1, by omega⟩
  have hb := hx l[i] (List.getElem_mem _)
  rw [Fo.l0, if_pos (by omega), if_pos (by omega), if_pos (by omega), rdI_nat l i (by omega), if_pos hb.1, if_pos hb.2, List.drop_eq_getElem_cons (show i < l.length by omega), List.all_cons]
  by_cases h : (q0a xs l[i]).f0 = 3
  ·
   rw [if_pos h, decide_eq_true h, Bool.true_and, q1y i (by omega), ih (i + 1) k (by omega) (by omega)]
  rw [if_neg h, decide_eq_false h, Bool.false_and]
theorem isready_f (k : Nat) (ky nm : ByteArray) (ts : List S49) (is : Int) (xs : List S51) (h : Wf ts xs.length) (i : Nat) (hi : i < xs.length) (hk : 20 ≤ k) : Fo.f k ky nm ts is xs (i : Int) = some (q3m ts xs i) := by
 obtain ⟨h1, h2, h3⟩ := h
 obtain ⟨h4, h5⟩ := h3 i hi
 unfold Fo.f
 rw [if_pos (by omega), if_pos (by omega)]
 have h6 := isready_l0 (q0d ts (i : Int)).f0 ky nm ts is xs (by omega) h5 (q0d ts (i : Int)).f0.length 0 k (by omega) (by omega)
 rw [List.drop_zero] at h6
 exact h6
theorem anyO_open (xs : List S51) : ∀ l : List Int, (∀ x ∈ l, 0 ≤ x ∧ x < (xs.length : Int)) → anyO (openO xs) l = some (!(l.all fun x => decide ((q0a xs x).f0 = 3)))
 | [], _ => rfl
 | x :: l, h => by
  have hb := h x (List.mem_cons_self ..)
  rw [anyO, openO, if_pos hb, Option.bind_some, List.all_cons, anyO_open xs l (fun y hy => h y (List.mem_cons_of_mem _ hy))]
  by_cases e : (q0a xs x).f0 = 3
  ·
   rw [decide_eq_true e, Bool.true_and, if_neg (by simp [e])]
  rw [decide_eq_false e, Bool.false_and, if_pos (by simpa using e)]
  rfl
theorem ready_o (ts : List S49) (xs : List S51) (h : Wf ts xs.length) (i : Nat) (hi : i < xs.length) : readyO ts xs (i : Int) = some (q3m ts xs i) := by
 obtain ⟨h1, h2, h3⟩ := h
 obtain ⟨h4, h5⟩ := h3 i hi
 unfold readyO
 rw [if_pos ⟨by omega, by omega⟩]
 unfold anyF
 rw [if_pos (by omega), anyO_open xs _ h5, Option.bind_some, Bool.not_not]
 rfl
end Go.Proofs.Ytabmkighhmchmaa.Pure
