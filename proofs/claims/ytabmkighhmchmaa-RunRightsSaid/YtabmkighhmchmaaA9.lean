/- Words and walks for the law RunRights, joined and made small by a program of mine. -/
import Derived.Test.YtabmkighhmchmaaA2
import Derived.Test.YtabmkighhmchmaaA6
import Derived.Test.YtabmkighhmchmaaA7
import Derived.Test.YtabmkighhmchmaaA8
import Derived.Test.YtabmkighhmchmaaA4
import Derived.Test.YtabmkighhmchmaaA5
import Derived.Test.YtabmkighhmchmaaA3
import Derived.OpenShut
import Derived.Lib.Strings
namespace Go.Proofs.Ytabmkighhmchmaa.X
open Go.RowKit Go.Proofs.YtabmkighhmchmaaW.PrintWords Go.Proofs.YtabmkighhmchmaaW.PrintLast Go.Proofs.YtabmkighhmchmaaW.PrintMore Go.Proofs.YtabmkighhmchmaaW.Sq
attribute [local go_sem] max2_int min2_int max_two min_two max_three min_three max_four min_four
set_option linter.unusedVariables false
set_option linter.unusedSimpArgs false
def Fk.l0 : Nat → Int → Int → Int → ByteArray → ByteArray → List (S49) → Int → List (S51) → Option (ByteArray × ByteArray × (List (S49)) × Int × (List (S51)))
 | 0, _, _, _, _, _, _, _, _ => none
 | k + 1, x1, x8, x9, a3, a4, a1, a5, a0 => if x9 < x8 then ((Fl.f k a3 a4 a1 a5 a0 x1).bind fun a2 => (if a2 ≥ 0 then (if 0 ≤ a2 then (if a2 < (a1.length : Int) then (if a2 < (a0.length : Int) then ((Gb.f k ((rd_T49 a1 a2).f0) ((rd_T49 a1 a2).f1) ((rd_T49 a1 a2).f2) ((rd_T49 a1 a2).f3) ((rd_T51 a0 a2).f0) ((rd_T51 a0 a2).f1) ((rd_T51 a0 a2).f2) ((rd_T51 a0 a2).f3) ((rd_T51 a0 a2).f4) x1).bind fun a6 => ((Fr.f k a3 a4 a1 a5 a0 a2 a6.1 a6.2.1 a6.2.2.1 a6.2.2.2.1 a6.2.2.2.2).bind fun a7 => ((Fg.f k a7.1 a7.2.1 a7.2.2.1 a7.2.2.2.1 a7.2.2.2.2).bind fun a8 => (Fk.l0 k x1 x8 (wrap64 (x9 + 1)) a8.1 a8.2.1 a8.2.2.1 a8.2.2.2.1 a8.2.2.2.2)))) else (none)) else (none)) else (none)) else (Fk.l0 k x1 x8 (wrap64 (x9 + 1)) a3 a4 a1 a5 a0))) else (some (a3, a4, a1, a5, a0))
def Fk.f (k : Nat) (a2 : ByteArray) (a3 : ByteArray) (a5 : List (S49)) (a4 : Int) (a0 : List (S51)) (a1 : Int) : Option (ByteArray × ByteArray × (List (S49)) × Int × (List (S51))) := Fk.l0 k a1 (a0.length : Int) 0 a2 a3 a5 a4 a0
def Fk.T5 : Bool × List (List Nat × List Nat) := (true, [([], []), ([], []), ([], []), ([2], [2]), ([3], [3]), ([], []), ([4, 5], [4, 5]), ([6], [6]), ([], []), ([8], [8]), ([], []), ([9, 10], [9, 10]), ([11], [11]), ([], []), ([7, 12, 13], [7, 12, 13]), ([0, 1, 14, 14], [0, 1, 14]), ([15, 15], [15]), ([16, 16, 0, 1, 2, 3, 4, 5, 6, 7, 8, 9, 10, 11, 12, 13, 14, 15, 16], [16])])
def Fk.B5 : List Nat := [0, 0, 0, 4, 12, 0, 60, 124, 0, 256, 0, 1792, 3840, 0, 16380, 32767, 65535, 131071]
theorem Fk.tab5 : rtab .any (opsOf Try.f18 5) = Fk.T5 := by kernel_rfl
theorem Fk.bits5 : waitsOk Fk.T5.2 Fk.B5 = true := by kernel_rfl
set_option maxHeartbeats 8000000 in
set_option maxRecDepth 100000 in
theorem Fk.calls (k : Nat) (i1 : ByteArray) (i2 : ByteArray) (b8 : Nat → Prop) (g6 : Option Addr) (h5 : Nat) (d7 : List (S49)) (i3 : Int) (b9 : Nat → Prop) (g7 : Option Addr) (h6 : Nat) (d3 : List (S51)) (a1 : Int) (r1 : ByteArray) (r2 : ByteArray) (r3 : List (S49)) (r4 : Int) (r5 : List (S51)) (w : World) (m6 : Kd.V k49 49 w w.heap.size (fun k_ => b8 k_) (.slice g6 d7.length h5) d7) (m7 : Kd.V k51 51 w w.heap.size (fun k_ => b9 k_) (.slice g7 d3.length h6) d3) (h : Fk.f k i1 i2 d7 i3 d3 a1 = some (r1, r2, r3, r4, r5)) :
  Calls Try.prog 18 #[.agg #[.string i1, .string i2, .slice g6 d7.length h5, .int .i64 i3, .slice g7 d3.length h6], .int .i64 a1] w fun e w' => ∃ t5 t6 : Value, e = .returned (.agg #[.string r1, .string r2, t5, .int .i64 r4, t6]) ∧ Kd.V k49 49 w' w.heap.size (fun k_ => ((b8 k_ ∨ b9 k_) ∨ w.heap.size ≤ k_)) t5 r3 ∧ Kd.V k51 51 w' w.heap.size (fun k_ => ((b8 k_ ∨ b9 k_) ∨ w.heap.size ≤ k_)) t6 r5 ∧ Below w.heap.size w w' := by
 have u6 := Try.underlying27
 have u7 := Try.underlying49
 have u8 := Try.underlying51
 have e1 := am (show Kd.V k49 49 w w.heap.size (fun k_ => ((b8 k_ ∨ b9 k_) ∨ w.heap.size ≤ k_)) (.slice g6 d7.length h5) d7 from Kd.V_mono m6 (fun k_ hk => .inl (.inl hk)))
 have e2 := am (show Kd.V k51 51 w w.heap.size (fun k_ => ((b8 k_ ∨ b9 k_) ∨ w.heap.size ≤ k_)) (.slice g7 d3.length h6) d3 from Kd.V_mono m7 (fun k_ hk => .inl (.inr hk)))
 have HB := am (Below.refl w.heap.size w)
 unfold Fk.f at h
 have H := h
 clear h
 have H' := am H
 clear H
 go_enter Try.func18, Try.ntmps18
 go_wp2_with (first | ((with_reducible refine gD 2 ?_); refine bz 2 #[.string i1, .string i2, .slice g6 d7.length h5, .int .i64 i3, .slice g7 d3.length h6] 27 HB ?_; clear HB; intro b4 hg w3 hb a3 s1 HB; replace e1 := vE e1 hg hb; replace e2 := vE e2 hg hb; clear hb hg) | ((with_reducible refine gD 4 ?_); refine bz 4 #[.string (⟨#[]⟩ : ByteArray), .string (⟨#[]⟩ : ByteArray), .slice none 0 0, .int .i64 0, .slice none 0 0] 27 HB ?_; clear HB; intro d1 hg w4 hb b1 s2 HB; replace e1 := vE e1 hg hb; replace e2 := vE e2 hg hb; have b2 := nL hg a3; have b5 := nG hg a3; replace a3 := kB a3 hb; clear hb hg; have u0 := nn b2; have j7 := y5 a3))
 go_loopg [9] k (fun kq v9 w' => ∃ (g5 : Int) (a8 : ByteArray) (a9 : ByteArray) (a2 : List (S49)) (b0 : Int) (a0 : List (S51)) (d8 : Value) (d9 : Value), v9 = .int .i64 g5 ∧ Aside0 (Fk.l0 kq a1 (d3.length : Int) g5 a8 a9 a2 b0 a0 = some (r1, r2, r3, r4, r5)) ∧ Aside0 (kq ≤ k) ∧ Aside0 (Kd.V k49 49 w' w.heap.size (fun k_ => ((b8 k_ ∨ b9 k_) ∨ w.heap.size ≤ k_) ∧ k_ ≠ b4 ∧ k_ ≠ d1) d8 a2) ∧ Aside0 (Kd.V k51 51 w' w.heap.size (fun k_ => ((b8 k_ ∨ b9 k_) ∨ w.heap.size ≤ k_) ∧ k_ ≠ b4 ∧ k_ ≠ d1) d9 a0) ∧ Aside0 (w'.heap[b4]? = some (.cells #[.string a8, .string a9, d8, .int .i64 b0, d9] 27 (0, 0))) ∧ Aside0 (w'.heap[d1]? = some (.cells #[.string (⟨#[]⟩ : ByteArray), .string (⟨#[]⟩ : ByteArray), (.slice none 0 0), .int .i64 0, (.slice none 0 0)] 27 (0, 0))) ∧ Aside0 (Below w.heap.size w w'))
 case atStart => exact ⟨(0), (i1), (i2), (d7), (i3), (d3), (.slice g6 d7.length h5), (.slice g7 d3.length h6), el, H', ⟨Nat.le_refl _⟩, ⟨by exact Kd.V_mono (pV e1.out) (fun _ hk => ⟨hk.1.1, ⟨hk.1.2, hk.2⟩⟩)⟩, ⟨by exact Kd.V_mono (pV e2.out) (fun _ hk => ⟨hk.1.1, ⟨hk.1.2, hk.2⟩⟩)⟩, ⟨pk a3.out⟩, ⟨pk b1.out⟩, ⟨pB HB.out⟩⟩
 case round =>
  clear H'
  try clear j7
  try clear a3; try clear b1; try clear HB
  obtain ⟨g5, a8, a9, a2, b0, a0, d8, d9, rfl, HA, n2, a5, a6, a3, b1, HB⟩ := hrel
  cases gk with
  | zero => exact absurd HA.out (by simp [Fk.l0])
  | succ k1 =>
   have H := HA.out
   clear HA
   simp only [Fk.l0] at H
   by_cases c7 : g5 < (d3.length : Int)
   ·
    rw [if_pos c7] at H
    have p9 := decide_eq_true c7
    clear c7
    replace H := Option.bind_eq_some_iff.mp H
    obtain ⟨a7, s0, H⟩ := H
    try dsimp only at H
    have A8 := am s0
    clear s0
    by_cases c9 : a7 ≥ 0
    ·
     rw [if_pos c9] at H
     have q0 := decide_eq_true c9
     clear c9
     by_cases n3 : 0 ≤ a7
     ·
      rw [if_pos n3] at H
      have s3 := decide_eq_true n3
      clear n3
      by_cases n4 : a7 < (a2.length : Int)
      ·
       rw [if_pos n4] at H
       have s4 := decide_eq_true n4
       clear n4
       by_cases n5 : a7 < (a0.length : Int)
       ·
        rw [if_pos n5] at H
        have s5 := decide_eq_true n5
        clear n5
        replace H := Option.bind_eq_some_iff.mp H
        obtain ⟨⟨k0, k2, k3, k4, k5⟩, l3, H⟩ := H
        try dsimp only at H
        have t7 := am l3
        clear l3
        replace H := Option.bind_eq_some_iff.mp H
        obtain ⟨⟨k6, k7, k8, k9, h9⟩, l4, H⟩ := H
        try dsimp only at H
        have t8 := am l4
        clear l4
        replace H := Option.bind_eq_some_iff.mp H
        obtain ⟨⟨m8, m9, l1, n0, l2⟩, l5, H⟩ := H
        try dsimp only at H
        have t9 := am l5
        clear l5
        have H' := am H
        clear H
        have t2 := nn b2
        have n6 := y5 a3
        obtain ⟨p2, i4, q8⟩ := Kd.V_slice a5.out
        subst q8
        obtain ⟨p3, i5, q9⟩ := Kd.V_slice a6.out
        subst q9
        try go_wp2_with (first | ((with_reducible refine gC 47 ?_); refine gL 13 Try.func47 #[.agg #[.string a8, .string a9, .slice p2 a2.length i4, .int .i64 b0, .slice p3 a0.length i5], .int .i64 a1] ?_; (with_reducible refine (Fl.calls k1 a8 a9 _ _ a2 b0 _ _ a0 a1 a7 _ ?side1 ?side2 ?side3 ?side4 A8.out).mono ?_); (case side1 => exact pC ((Kd.V_reads' a5.out).2.2)); (case side2 => exact (Kd.V_reads' a5.out).2.1); (case side3 => exact pC ((Kd.V_reads' a6.out).2.2)); (case side4 => exact (Kd.V_reads' a6.out).2.1); rintro e v2 ⟨rfl, hb⟩; refine ⟨_, rfl, ?_⟩; replace a5 := vB a5 hb; replace a6 := vB a6 hb; replace a3 := kB a3 hb; replace b1 := kB b1 hb; replace HB := bS HB hb; (try clear hb); (try clear hb2); (try clear hk); (try clear hi)))
        replace a5 := am (Kd.V_drew a5.out)
        replace a6 := am (Kd.V_drew a6.out)
        replace a3 := am (blk_drew a3.out)
        replace b1 := am (blk_drew b1.out)
        replace HB := am (below_drew1 HB.out)
        have i6 : 0 ≤ (a7 : Int) := od
        have i7 : a7 < (a2.length : Int) := od
        obtain ⟨d0, g8, h7, q6, d6, f6, f7, f8, f5, e9⟩ := at_T49 (Kd.V_reads' a5.out).2.2 a7 i6 i7
        cases q6
        obtain ⟨s6, j6, j5, h8⟩ := Kd.V_get a5.out z49 a7 i6 (by first | exact i7 | exact of_decide_eq_true (by first | (with_reducible assumption) | assumption) | (have e_ := (Kd.V_reads' a5.out).1; omega))
        obtain ⟨p0, p1, rfl, e0, d5⟩ := k49_openF j5
        have d2 := h8 0 _ rfl
        rw [Nat.add_zero] at d2
        replace d2 := Option.some.inj (d2.symm.trans d6)
        injection d2 with hva_ hvn_ hvc_
        rw [hva_] at d5
        rw [hvc_] at e0
        have b7 := am (show Kd.V (Kd.int .i64) 3 _ w.heap.size _ _ ((rd_T49 a2 a7).f0) from Kd.V_mk e0 d5)
        clear hva_ hvn_ hvc_ d5 e0 h8 j6
        have b3 := am e9
        have i0 := am f5
        clear e9 f5
        replace i6 := eq_true i6
        replace i7 := eq_true i7
        have j8 : 0 ≤ (a7 : Int) := od
        have j9 : a7 < (a0.length : Int) := od
        obtain ⟨c6, q7, f9, g0, g1, g2, g3⟩ := at_T51 (Kd.V_reads' a6.out).2.2 a7 j8 j9
        cases q7
        replace j8 := eq_true j8
        replace j9 := eq_true j9
        refine start_ (n := 18) (S := fun w' => w'.cell? ⟨b4, 0, none⟩ = some (.string a8) ∧ w'.cell? ⟨b4, 1, none⟩ = some (.string a9) ∧ w'.cell? ⟨b4, 2, none⟩ = some (.slice (some d0) a2.length i4) ∧ w'.cell? ⟨b4, 3, none⟩ = some (.int .i64 b0) ∧ w'.cell? ⟨b4, 4, none⟩ = some (.slice (some c6) a0.length i5) ∧ w'.cell? (d0.add ((a7).toNat * 4)) = some (.slice g8 ((rd_T49 a2 a7).f0).length h7) ∧ w'.cell? ⟨(d0.add ((a7).toNat * 4)).block, (d0.add ((a7).toNat * 4)).off + 1, none⟩ = some (.int .i64 ((rd_T49 a2 a7).f1)) ∧ w'.cell? ⟨(d0.add ((a7).toNat * 4)).block, (d0.add ((a7).toNat * 4)).off + 2, none⟩ = some (.int .i64 ((rd_T49 a2 a7).f2)) ∧ w'.cell? ⟨(d0.add ((a7).toNat * 4)).block, (d0.add ((a7).toNat * 4)).off + 3, none⟩ = some (.int .i64 ((rd_T49 a2 a7).f3)) ∧ w'.cell? (c6.add ((a7).toNat * 5)) = some (.int .i64 ((rd_T51 a0 a7).f0)) ∧ w'.cell? ⟨(c6.add ((a7).toNat * 5)).block, (c6.add ((a7).toNat * 5)).off + 1, none⟩ = some (.int .i64 ((rd_T51 a0 a7).f1)) ∧ w'.cell? ⟨(c6.add ((a7).toNat * 5)).block, (c6.add ((a7).toNat * 5)).off + 2, none⟩ = some (.int .i64 ((rd_T51 a0 a7).f2)) ∧ w'.cell? ⟨(c6.add ((a7).toNat * 5)).block, (c6.add ((a7).toNat * 5)).off + 3, none⟩ = some (.int .i64 ((rd_T51 a0 a7).f3)) ∧ w'.cell? ⟨(c6.add ((a7).toNat * 5)).block, (c6.add ((a7).toNat * 5)).off + 4, none⟩ = some (.string ((rd_T51 a0 a7).f4))) (ds := [17]) (ba 18 0) (by kernel_rfl) rfl rfl ⟨bc a3.out, bc a3.out, bc a3.out, bc a3.out, bc a3.out, d6, f6, f7, f8, f9, g0, g1, g2, g3⟩ (fun a4 => ?_); refine with_tabW Fk.tab5 Fk.bits5 (fun d4 l8 => ?_)
        generalize v2.drew = v3 at a5 a6 a3 b1 HB b7 b3 d6 f6 f7 f8 f9 g0 g1 g2 g3 a4 ⊢
        refine pu 1 17 (ba 18 2) d4 ?_
        refine pu 2 18 (ba 18 6) d4 ?_
        refine pu 3 19 (ba 18 14) d4 ?_
        refine pu 5 21 (ba 18 46) d4 ?_
        refine pu 8 24 (ba 18 302) d4 ?_
        refine pu 10 26 (ba 18 1326) d4 ?_
        refine pu 13 29 (ba 18 9518) d4 ?_
        refine tk 0 16 (ba 18 9519) d4 l8 a4 ?_
        refine tk 4 20 (ba 18 9535) d4 l8 a4 ?_
        refine pu 6 22 (ba 18 9599) d4 ?_
        refine tk 7 23 (ba 18 9727) d4 l8 a4 ?_
        refine tk 9 25 (ba 18 10239) d4 l8 a4 ?_
        refine pu 11 27 (ba 18 12287) d4 ?_
        refine tk 12 28 (ba 18 16383) d4 l8 a4 ?_
        refine one_ (i := 14) (N := some 30) (ba 18 32767) rfl rfl (one_of d4.out (by kernel_rfl)) (by decide) (fun K hK => ?_)
        refine goes_ Try.func49 (by kernel_rfl) rfl #[.agg #[.slice g8 ((rd_T49 a2 a7).f0).length h7, .int .i64 ((rd_T49 a2 a7).f1), .int .i64 ((rd_T49 a2 a7).f2), .int .i64 ((rd_T49 a2 a7).f3)], .agg #[.int .i64 ((rd_T51 a0 a7).f0), .int .i64 ((rd_T51 a0 a7).f1), .int .i64 ((rd_T51 a0 a7).f2), .int .i64 ((rd_T51 a0 a7).f3), .string ((rd_T51 a0 a7).f4)], .int .i64 a1] (by rfl) rfl rfl (by (try simp only [List.map_toArray, List.map_cons, List.map_nil]); first | done | rfl | (simp only [List.length_drop, List.length_take]; rfl)) ?_
        with_reducible refine (Gb.calls k1 _ _ ((rd_T49 a2 a7).f0) ((rd_T49 a2 a7).f1) ((rd_T49 a2 a7).f2) ((rd_T49 a2 a7).f3) ((rd_T51 a0 a7).f0) ((rd_T51 a0 a7).f1) ((rd_T51 a0 a7).f2) ((rd_T51 a0 a7).f3) ((rd_T51 a0 a7).f4) a1 k0 k2 k3 k4 k5 _ ?side1 ?side2 t7.out).mono ?_
        (case side1 => repeat (first | exact (by repeat (first | (with_reducible exact b3.out) | (with_reducible refine Kd.C_alloc ?_ _) | (with_reducible refine Kd.C_drewN ?_ _) | (with_reducible refine Kd.C_drew ?_) | exact b3.out)) | (with_reducible refine Kd.C_alloc ?_ _) | (with_reducible refine Kd.C_drewN ?_ _) | (with_reducible refine Kd.C_drew ?_)))
        (case side2 => exact i0.out)
        rintro e v4 ⟨rfl, hb⟩
        have g9 := (hb.cell (World.block_lt_of_cell? _ _ (a4.2.2.2.2.2.1))).trans (a4.2.2.2.2.2.1)
        have h0 := (hb.cell (World.block_lt_of_cell? _ _ (a4.2.2.2.2.2.2.1))).trans (a4.2.2.2.2.2.2.1)
        have h2 := (hb.cell (World.block_lt_of_cell? _ _ (a4.2.2.2.2.2.2.2.1))).trans (a4.2.2.2.2.2.2.2.1)
        have h3 := (hb.cell (World.block_lt_of_cell? _ _ (a4.2.2.2.2.2.2.2.2.1))).trans (a4.2.2.2.2.2.2.2.2.1)
        have h4 := (hb.cell (World.block_lt_of_cell? _ _ (a4.2.2.2.2.2.2.2.2.2.1))).trans (a4.2.2.2.2.2.2.2.2.2.1)
        have e3 := (hb.cell (World.block_lt_of_cell? _ _ (a4.2.2.2.2.2.2.2.2.2.2.1))).trans (a4.2.2.2.2.2.2.2.2.2.2.1)
        have e4 := (hb.cell (World.block_lt_of_cell? _ _ (a4.2.2.2.2.2.2.2.2.2.2.2.1))).trans (a4.2.2.2.2.2.2.2.2.2.2.2.1)
        have e5 := (hb.cell (World.block_lt_of_cell? _ _ (a4.2.2.2.2.2.2.2.2.2.2.2.2.1))).trans (a4.2.2.2.2.2.2.2.2.2.2.2.2.1)
        have e6 := (hb.cell (World.block_lt_of_cell? _ _ (a4.2.2.2.2.2.2.2.2.2.2.2.2.2))).trans (a4.2.2.2.2.2.2.2.2.2.2.2.2.2)
        refine ⟨_, rfl, ?_⟩
        replace a5 := vB a5 hb
        replace a6 := vB a6 hb
        replace b7 := vB b7 hb
        replace a3 := kB a3 hb
        replace b1 := kB b1 hb
        replace b3 := am (Kd.C_below (by repeat (first | (with_reducible exact b3.out) | (with_reducible refine Kd.C_alloc ?_ _) | (with_reducible refine Kd.C_drewN ?_ _) | (with_reducible refine Kd.C_drew ?_) | exact b3.out)) hb)
        replace HB := bS HB hb
        (try clear hb)
        (try clear hb2)
        (try clear hk)
        (try clear hi)
        refine hK.out _ _ ⟨bc a3.out, bc a3.out, bc a3.out, bc a3.out, bc a3.out, g9, h0, h2, h3, h4, e3, e4, e5, e6⟩ (fun a4 => ?_)
        clear hK K
        refine nh ?_
        refine one_ (i := 15) (N := some 31) (ba 18 65535) rfl rfl (one_of d4.out (by kernel_rfl)) (by decide) (fun K hK => ?_)
        refine goes_ Try.func48 (by kernel_rfl) rfl #[.agg #[.string a8, .string a9, .slice (some d0) a2.length i4, .int .i64 b0, .slice (some c6) a0.length i5], .int .i64 a7, .agg #[.int .i64 k0, .int .i64 k2, .int .i64 k3, .int .i64 k4, .string k5]] (by rfl) rfl rfl (by (try simp only [List.map_toArray, List.map_cons, List.map_nil]); first | done | rfl | (simp only [List.length_drop, List.length_take]; rfl)) ?_
        with_reducible refine (Fr.calls k1 a8 a9 (fun k_ => (((b8 k_ ∨ b9 k_) ∨ w.heap.size ≤ k_) ∧ (k_ ≠ b4 ∧ k_ ≠ d1))) _ _ a2 b0 _ _ a0 a7 k0 k2 k3 k4 k5 k6 k7 k8 k9 h9 _ ?side1 ?side2 ?side3 t8.out).mono ?_
        (case side1 => exact a5.out)
        (case side2 => exact pC ((Kd.V_reads' a6.out).2.2))
        (case side3 => exact (Kd.V_reads' a6.out).2.1)
        rintro e v5 ⟨u9, r9, rfl, m5, j0, hb⟩
        have g9 := (hb.cell (World.block_lt_of_cell? _ _ (a4.2.2.2.2.2.1))).trans (a4.2.2.2.2.2.1)
        have h0 := (hb.cell (World.block_lt_of_cell? _ _ (a4.2.2.2.2.2.2.1))).trans (a4.2.2.2.2.2.2.1)
        have h2 := (hb.cell (World.block_lt_of_cell? _ _ (a4.2.2.2.2.2.2.2.1))).trans (a4.2.2.2.2.2.2.2.1)
        have h3 := (hb.cell (World.block_lt_of_cell? _ _ (a4.2.2.2.2.2.2.2.2.1))).trans (a4.2.2.2.2.2.2.2.2.1)
        have h4 := (hb.cell (World.block_lt_of_cell? _ _ (a4.2.2.2.2.2.2.2.2.2.1))).trans (a4.2.2.2.2.2.2.2.2.2.1)
        have e3 := (hb.cell (World.block_lt_of_cell? _ _ (a4.2.2.2.2.2.2.2.2.2.2.1))).trans (a4.2.2.2.2.2.2.2.2.2.2.1)
        have e4 := (hb.cell (World.block_lt_of_cell? _ _ (a4.2.2.2.2.2.2.2.2.2.2.2.1))).trans (a4.2.2.2.2.2.2.2.2.2.2.2.1)
        have e5 := (hb.cell (World.block_lt_of_cell? _ _ (a4.2.2.2.2.2.2.2.2.2.2.2.2.1))).trans (a4.2.2.2.2.2.2.2.2.2.2.2.2.1)
        have e6 := (hb.cell (World.block_lt_of_cell? _ _ (a4.2.2.2.2.2.2.2.2.2.2.2.2.2))).trans (a4.2.2.2.2.2.2.2.2.2.2.2.2.2)
        refine ⟨_, rfl, ?_⟩
        replace a5 := am (Kd.V_elder' (pV a5.out) (Kd.R_base j0) hb)
        replace a6 := am (Kd.V_elder' (pV a6.out) (Kd.R_base j0) hb)
        replace b7 := am (Kd.V_elder' (pV b7.out) (Kd.R_base j0) hb)
        have e8 := am (Kd.V_lower (Kd.V_mono (ok' := fun k_ => ((b8 k_ ∨ b9 k_) ∨ w.heap.size ≤ k_) ∧ some k_ ≠ (r9 : Value).ownBlock ∧ k_ ≠ b4 ∧ k_ ≠ d1) m5 (fun k_ g4 => ⟨Or.elim g4.1 (fun b6 => b6.1) (fun e7 => (.inr (Nat.le_trans (below_size (pB HB.out)) e7))), g4.2, Or.elim g4.1 (fun b6 => b6.2.1) (fun e7 => (Kd.freshB (pk a3.out) k_ e7)), Or.elim g4.1 (fun b6 => b6.2.2) (fun e7 => (Kd.freshB (pk b1.out) k_ e7))⟩)) (below_size (pB HB.out)))
        have c8 := am (Kd.R_lower (Kd.R_newM (M := fun k_ => (w.heap.size ≤ k_)) (Kd.R_mono (ok' := fun k_ => True) j0 (fun _ g4 => trivial)) (below_size (pB HB.out)) (fun k_ h_ => h_)) (below_size (pB HB.out)))
        replace a3 := kB a3 hb
        replace b1 := kB b1 hb
        replace b3 := am (Kd.C_below (by repeat (first | (with_reducible exact b3.out) | (with_reducible refine Kd.C_alloc ?_ _) | (with_reducible refine Kd.C_drewN ?_ _) | (with_reducible refine Kd.C_drew ?_) | exact b3.out)) hb)
        replace HB := bS HB hb
        (try clear hb)
        (try clear hb2)
        (try clear hk)
        (try clear hi)
        (try clear m5)
        (try clear j0)
        obtain ⟨p4, q1, m1⟩ := Kd.V_slice e8.out
        (first | subst m1 | (injection m1 with f1_ f2_ f3_; have j3 := f1_.symm; have j4 := f3_.symm; clear f1_ f2_ f3_; subst j3; subst j4))
        obtain ⟨j1, j2, m2⟩ := Kd.R_slice c8.out
        (first | subst m2 | (injection m2 with f1_ f2_ f3_; have j3 := f1_.symm; have j4 := f3_.symm; clear f1_ f2_ f3_; subst j3; subst j4))
        refine hK.out _ _ ⟨bc a3.out, bc a3.out, bc a3.out, bc a3.out, bc a3.out, g9, h0, h2, h3, h4, e3, e4, e5, e6⟩ (fun a4 => ?_)
        clear hK K
        refine nh ?_
        refine one_ (i := 16) (N := some 32) (ba 18 131071) rfl rfl (one_of d4.out (by kernel_rfl)) (by decide) (fun K hK => ?_)
        refine goes_ Try.func35 (by kernel_rfl) rfl #[.agg #[.string k6, .string k7, .slice p4 k8.length q1, .int .i64 k9, .slice j1 h9.length j2]] (by rfl) rfl rfl (by (try simp only [List.map_toArray, List.map_cons, List.map_nil]); first | done | rfl | (simp only [List.length_drop, List.length_take]; rfl)) ?_
        with_reducible refine (Fg.calls k1 k6 k7 (fun k_ => (((b8 k_ ∨ b9 k_) ∨ w.heap.size ≤ k_) ∧ (some k_ ≠ (.slice j1 h9.length j2 : Value).ownBlock ∧ (k_ ≠ b4 ∧ k_ ≠ d1)))) _ _ k8 k9 (fun k_ => some k_ = (.slice j1 h9.length j2 : Value).ownBlock) _ _ h9 m8 m9 l1 n0 l2 _ ?side1 ?side2 t9.out).mono ?_
        (case side1 => exact e8.out)
        (case side2 => exact Kd.R_V (Kd.R_tight rfl (Kd.R_types (Kd.R_types (c8.out) a3.out (by decide)) b1.out (by decide))))
        rintro e n1 ⟨v0, v1, rfl, m5, j0, hb⟩
        have g9 := (hb.cell (World.block_lt_of_cell? _ _ (a4.2.2.2.2.2.1))).trans (a4.2.2.2.2.2.1)
        have h0 := (hb.cell (World.block_lt_of_cell? _ _ (a4.2.2.2.2.2.2.1))).trans (a4.2.2.2.2.2.2.1)
        have h2 := (hb.cell (World.block_lt_of_cell? _ _ (a4.2.2.2.2.2.2.2.1))).trans (a4.2.2.2.2.2.2.2.1)
        have h3 := (hb.cell (World.block_lt_of_cell? _ _ (a4.2.2.2.2.2.2.2.2.1))).trans (a4.2.2.2.2.2.2.2.2.1)
        have h4 := (hb.cell (World.block_lt_of_cell? _ _ (a4.2.2.2.2.2.2.2.2.2.1))).trans (a4.2.2.2.2.2.2.2.2.2.1)
        have e3 := (hb.cell (World.block_lt_of_cell? _ _ (a4.2.2.2.2.2.2.2.2.2.2.1))).trans (a4.2.2.2.2.2.2.2.2.2.2.1)
        have e4 := (hb.cell (World.block_lt_of_cell? _ _ (a4.2.2.2.2.2.2.2.2.2.2.2.1))).trans (a4.2.2.2.2.2.2.2.2.2.2.2.1)
        have e5 := (hb.cell (World.block_lt_of_cell? _ _ (a4.2.2.2.2.2.2.2.2.2.2.2.2.1))).trans (a4.2.2.2.2.2.2.2.2.2.2.2.2.1)
        have e6 := (hb.cell (World.block_lt_of_cell? _ _ (a4.2.2.2.2.2.2.2.2.2.2.2.2.2))).trans (a4.2.2.2.2.2.2.2.2.2.2.2.2.2)
        refine ⟨_, rfl, ?_⟩
        replace a5 := vB a5 hb
        replace a6 := vB a6 hb
        replace b7 := vB b7 hb
        replace e8 := vB e8 hb
        have i8 := am (Kd.V_lower (Kd.V_mono (ok' := fun k_ => ((b8 k_ ∨ b9 k_) ∨ w.heap.size ≤ k_) ∧ k_ ≠ b4 ∧ k_ ≠ d1) m5 (fun k_ g4 => ⟨Or.elim g4 (fun b6 => Or.elim b6 (fun b6 => b6.1) (fun b6 => (.inr (((Kd.R_types (Kd.R_types (c8.out) a3.out (by decide)) b1.out (by decide)).1 k_ b6.symm).1.1.1)))) (fun e7 => (.inr (Nat.le_trans (below_size (pB HB.out)) e7))), Or.elim g4 (fun b6 => Or.elim b6 (fun b6 => b6.2.2.1) (fun b6 => ((Kd.R_types (Kd.R_types (c8.out) a3.out (by decide)) b1.out (by decide)).1 k_ b6.symm).1.2)) (fun e7 => (Kd.freshB (pk a3.out) k_ e7)), Or.elim g4 (fun b6 => Or.elim b6 (fun b6 => b6.2.2.2) (fun b6 => ((Kd.R_types (Kd.R_types (c8.out) a3.out (by decide)) b1.out (by decide)).1 k_ b6.symm).2)) (fun e7 => (Kd.freshB (pk b1.out) k_ e7))⟩)) (below_size (pB HB.out)))
        have i9 := am (Kd.V_lower (Kd.V_mono (ok' := fun k_ => ((b8 k_ ∨ b9 k_) ∨ w.heap.size ≤ k_) ∧ k_ ≠ b4 ∧ k_ ≠ d1) j0 (fun k_ g4 => ⟨Or.elim g4 (fun b6 => Or.elim b6 (fun b6 => b6.1) (fun b6 => (.inr (((Kd.R_types (Kd.R_types (c8.out) a3.out (by decide)) b1.out (by decide)).1 k_ b6.symm).1.1.1)))) (fun e7 => (.inr (Nat.le_trans (below_size (pB HB.out)) e7))), Or.elim g4 (fun b6 => Or.elim b6 (fun b6 => b6.2.2.1) (fun b6 => ((Kd.R_types (Kd.R_types (c8.out) a3.out (by decide)) b1.out (by decide)).1 k_ b6.symm).1.2)) (fun e7 => (Kd.freshB (pk a3.out) k_ e7)), Or.elim g4 (fun b6 => Or.elim b6 (fun b6 => b6.2.2.2) (fun b6 => ((Kd.R_types (Kd.R_types (c8.out) a3.out (by decide)) b1.out (by decide)).1 k_ b6.symm).2)) (fun e7 => (Kd.freshB (pk b1.out) k_ e7))⟩)) (below_size (pB HB.out)))
        replace c8 := am (Kd.R_below (pR c8.out) hb)
        replace a3 := kB a3 hb
        replace b1 := kB b1 hb
        replace b3 := am (Kd.C_below (by repeat (first | (with_reducible exact b3.out) | (with_reducible refine Kd.C_alloc ?_ _) | (with_reducible refine Kd.C_drewN ?_ _) | (with_reducible refine Kd.C_drew ?_) | exact b3.out)) hb)
        replace HB := bS HB hb
        (try clear hb)
        (try clear hb2)
        (try clear hk)
        (try clear hi)
        (try clear m5)
        (try clear j0)
        obtain ⟨p5, q2, m3⟩ := Kd.V_slice i8.out
        (first | subst m3 | (injection m3 with f1_ f2_ f3_; have j3 := f1_.symm; have j4 := f3_.symm; clear f1_ f2_ f3_; subst j3; subst j4))
        obtain ⟨p6, q3, m4⟩ := Kd.V_slice i9.out
        (first | subst m4 | (injection m4 with f1_ f2_ f3_; have j3 := f1_.symm; have j4 := f3_.symm; clear f1_ f2_ f3_; subst j3; subst j4))
        refine hK.out _ _ ⟨bc a3.out, bc a3.out, bc a3.out, bc a3.out, bc a3.out, g9, h0, h2, h3, h4, e3, e4, e5, e6⟩ (fun a4 => ?_)
        clear hK K
        refine nh ?_
        refine last_ (i := 17) (N := none) (ba 18 262143) rfl rfl (one_of d4.out (by kernel_rfl)) (by decide) (fun K hK => ?_)
        have u1 : n1.cell? ⟨b4, 0, none⟩ = some (.string a8) := bc a3.out
        have s7 := z1 a3.out
        have o5 := b5.out
        have o0 := b2.out
        have u2 : n1.cell? ⟨b4, 1, none⟩ = some (.string a9) := bc a3.out
        have s8 := blk_frozen a3.out 1
        have o6 := b5.out
        have o1 := b2.out
        have u3 : n1.cell? ⟨b4, 2, none⟩ = some (.slice (some d0) a2.length i4) := bc a3.out
        have s9 := blk_frozen a3.out 2
        have o7 := b5.out
        have o2 := b2.out
        have u4 : n1.cell? ⟨b4, 3, none⟩ = some (.int .i64 b0) := bc a3.out
        have t0 := blk_frozen a3.out 3
        have o8 := b5.out
        have o3 := b2.out
        have u5 : n1.cell? ⟨b4, 4, none⟩ = some (.slice (some c6) a0.length i5) := bc a3.out
        have t1 := blk_frozen a3.out 4
        have o9 := b5.out
        have o4 := b2.out
        refine skip_ (w1 := ?_) (by rfl) rfl ?_ ?_
        rotate_left
        ·
         go_simp
         rfl
        refine hK.out _ _ ?_
        clear hK K
        refine done_ (done_of d4.out (by kernel_rfl)) ?_
        try go_wp2
        go_roundg k1
        case measure => have := n2.out; omega
        case rel => exact ⟨(wrap64 (g5 + 1)), (m8), (m9), (l1), (n0), (l2), (.slice p5 l1.length q2), (.slice p6 l2.length q3), el, H', ⟨by have := n2.out; omega⟩, ⟨(pV i8.out)⟩, ⟨(pV i9.out)⟩, ⟨pP a3.out⟩, ⟨pk b1.out⟩, ⟨pB HB.out⟩⟩
       rw [if_neg n5] at H
       exact absurd H (by simp)
      rw [if_neg n4] at H
      exact absurd H (by simp)
     rw [if_neg n3] at H
     exact absurd H (by simp)
    rw [if_neg c9] at H
    have q0 := decide_eq_false c9
    clear c9
    have H' := am H
    clear H
    have t3 := nn b2
    have n7 := y5 a3
    obtain ⟨l6, l9, r0⟩ := Kd.V_slice a5.out
    subst r0
    obtain ⟨l7, m0, r6⟩ := Kd.V_slice a6.out
    subst r6
    go_wp2_with (first | ((with_reducible refine gC 47 ?_); refine gL 13 Try.func47 #[.agg #[.string a8, .string a9, .slice l6 a2.length l9, .int .i64 b0, .slice l7 a0.length m0], .int .i64 a1] ?_; (with_reducible refine (Fl.calls k1 a8 a9 _ _ a2 b0 _ _ a0 a1 a7 _ ?side1 ?side2 ?side3 ?side4 A8.out).mono ?_); (case side1 => exact pC ((Kd.V_reads' a5.out).2.2)); (case side2 => exact (Kd.V_reads' a5.out).2.1); (case side3 => exact pC ((Kd.V_reads' a6.out).2.2)); (case side4 => exact (Kd.V_reads' a6.out).2.1); rintro e v6 ⟨rfl, hb⟩; refine ⟨_, rfl, ?_⟩; replace a5 := vB a5 hb; replace a6 := vB a6 hb; replace a3 := kB a3 hb; replace b1 := kB b1 hb; replace HB := bS HB hb; (try clear hb); (try clear hb2); (try clear hk); (try clear hi)))
    go_roundg k1
    case measure => have := n2.out; omega
    case rel => exact ⟨(wrap64 (g5 + 1)), (a8), (a9), (a2), (b0), (a0), (.slice l6 a2.length l9), (.slice l7 a0.length m0), el, H', ⟨by have := n2.out; omega⟩, ⟨(pV a5.out)⟩, ⟨(pV a6.out)⟩, ⟨pk a3.out⟩, ⟨pk b1.out⟩, ⟨pB HB.out⟩⟩
   rw [if_neg c7] at H
   have p9 := decide_eq_false c7
   clear c7
   simp only [Option.some.injEq, Prod.mk.injEq] at H
   obtain ⟨rfl, rfl, rfl, rfl, rfl⟩ := H
   have t4 := nn b2
   have n8 := y5 a3
   have n9 := y5 b1
   obtain ⟨p7, q4, r7⟩ := Kd.V_slice a5.out
   subst r7
   obtain ⟨p8, q5, r8⟩ := Kd.V_slice a6.out
   subst r8
   go_wp2
   refine bodyPost_ret (results_cell_row rfl _ _ d1 27 #[.string a8, .string a9, .slice p7 a2.length q4, .int .i64 b0, .slice p8 a0.length q5] (0, 0) _ rfl (pP b1.out) Try.underlying27 rfl (by kernel_rfl)) rfl ?_
   exact ⟨_, _, by first | rfl | (simp [errW_none, errW_some] <;> rfl) | (simp [*, errW_none, errW_some] <;> rfl), by exact Kd.V_mono (pV a5.out) (fun _ hk => hk.1), by exact Kd.V_mono (pV a6.out) (fun _ hk => hk.1), pB HB.out⟩
mutual
def Fb.j0 : Nat → Int → Int → Int → Bool → ByteArray → ByteArray → List (S49) → Int → List (S51) → ByteArray → ByteArray → List (S49) → Int → List (S51) → Option (Bool)
 | 0, _, _, _, _, _, _, _, _, _, _, _, _, _, _ => none
 | k + 1, x1, x6, x7, b0, a0, a1, a2, a3, a4, a5, a6, a7, a8, a9 => if b0 = true then (Fb.j1 k x1 x6 1 a0 a1 a2 a3 a4 a5 a6 a7 a8 a9) else (Fb.j1 k x1 x6 x7 a0 a1 a2 a3 a4 a5 a6 a7 a8 a9)
def Fb.j1 : Nat → Int → Int → Int → ByteArray → ByteArray → List (S49) → Int → List (S51) → ByteArray → ByteArray → List (S49) → Int → List (S51) → Option (Bool)
 | 0, _, _, _, _, _, _, _, _, _, _, _, _, _ => none
 | k + 1, x1, x6, x7, a0, a1, a2, a3, a4, a6, a7, a8, a9, b0 => if x6 = x7 then (if x7 = 0 then ((Fw.f k a0 a1 a2).bind fun a5 => ((Fv.f k a6 a7 a8 a9 b0 a5.1 a5.2.1 a5.2.2.1 a5.2.2.2.1 a5.2.2.2.2).bind fun b1 => (if b1 = true then (Fb.j2 k x1 false a0 a1 a2 a3 a4) else (Fb.j2 k x1 true a0 a1 a2 a3 a4)))) else ((Fv.f k a6 a7 a8 a9 b0 (⟨#[]⟩ : ByteArray) (⟨#[]⟩ : ByteArray) ([] : List (S49)) 0 ([] : List (S51))).bind fun b2 => (Fb.j2 k x1 (!b2) a0 a1 a2 a3 a4))) else (Fb.j2 k x1 true a0 a1 a2 a3 a4)
def Fb.j2 : Nat → Int → Bool → ByteArray → ByteArray → List (S49) → Int → List (S51) → Option (Bool)
 | 0, _, _, _, _, _, _, _ => none
 | k + 1, x1, b4, a1, a2, a3, a4, a5 => if b4 = true then (none) else ((Gl.f k a1 a2 a3 a4 a5 x1).bind fun a0 => ((Fa.f k a1 a2 a3 a4 a5).bind fun a7 => (if a7 = true then ((F7.f k).bind fun b1 => (if b1 = true then ((Gg.f k a1 a2 a3 a4 a5).bind fun b2 => (if b2 = true then (if a0.2.2.2.2.2 = 0 then ((Fk.f k a1 a2 a3 a4 a5 x1).bind fun a6 => ((Fv.f k a0.1 a0.2.1 a0.2.2.1 a0.2.2.2.1 a0.2.2.2.2.1 a6.1 a6.2.1 a6.2.2.1 a6.2.2.2.1 a6.2.2.2.2).bind fun b3 => (some b3))) else (none)) else (none))) else (none))) else ((F7.f k).bind fun a8 => (if a8 = true then ((Gg.f k a1 a2 a3 a4 a5).bind fun a9 => (if a9 = true then (none) else (if a0.2.2.2.2.2 = 1 then ((Fv.f k a0.1 a0.2.1 a0.2.2.1 a0.2.2.2.1 a0.2.2.2.2.1 (⟨#[]⟩ : ByteArray) (⟨#[]⟩ : ByteArray) ([] : List (S49)) 0 ([] : List (S51))).bind fun b0 => (some b0)) else (none)))) else (none))))))
end
def Fb.f (k : Nat) (a4 : ByteArray) (a5 : ByteArray) (a7 : List (S49)) (a6 : Int) (a8 : List (S51)) (a1 : Int) : Option (Bool) := (Gf.f k a4 a5 a7 a6 a8).bind fun a0 => ((Gh.f k a0.1 a0.2.1 a0.2.2.1).bind fun a2 => ((Fm.f k a0.2.1 a0.2.2.1).bind fun a3 => (if (a0.1.size : Int) < 1 then (Fb.j0 k a1 a2.2.2.2.2.2 a3 true a0.1 a0.2.1 a0.2.2.1 a0.2.2.2.1 a0.2.2.2.2 a2.1 a2.2.1 a2.2.2.1 a2.2.2.2.1 a2.2.2.2.2.1) else (Fb.j0 k a1 a2.2.2.2.2.2 a3 (decide ((a0.1.size : Int) > 16)) a0.1 a0.2.1 a0.2.2.1 a0.2.2.2.1 a0.2.2.2.2 a2.1 a2.2.1 a2.2.2.1 a2.2.2.2.1 a2.2.2.2.2.1))))
def Fb.T6 : Bool × List (List Nat × List Nat) := (true, [([], []), ([], []), ([0, 1], [0, 1]), ([2], [2]), ([3], [3]), ([4, 3], [3, 4]), ([5, 3, 3], [3, 5]), ([6], [6]), ([6], [6]), ([8, 6], [6, 8]), ([6], [6]), ([10, 6], [6, 10]), ([9, 11, 6, 6], [6, 9, 11]), ([7, 12, 12, 6], [6, 7, 12]), ([13, 6], [6, 13]), ([6, 14, 3], [3, 6, 14]), ([3, 15], [3, 15]), ([16, 13], [16]), ([17], [17]), ([18, 17], [17, 18]), ([19, 17, 17], [17, 19]), ([20], [20]), ([20], [20]), ([21, 22, 20, 20], [20, 21, 22]), ([23, 20], [20, 23]), ([20, 24, 17], [17, 20, 24]), ([17, 25], [17, 25])])
def Fb.B6 : List Nat := [0, 0, 3, 7, 15, 31, 63, 127, 127, 383, 127, 1151, 3967, 8191, 16383, 32767, 65535, 131071, 262143, 524287, 1048575, 2097151, 2097151, 8388607, 16777215, 33554431, 67108863]
theorem Fb.tab6 : rtab .any (opsOf Try.f3 6) = Fb.T6 := by kernel_rfl
theorem Fb.bits6 : waitsOk Fb.T6.2 Fb.B6 = true := by kernel_rfl
def Fb.T11 : Bool × List (List Nat × List Nat) := (true, [([], []), ([0, 0], [0]), ([1], [1]), ([2, 1, 1], [1, 2]), ([1, 3], [1, 3]), ([4, 3], [4]), ([5], [5]), ([6, 5], [5, 6]), ([5, 7], [5, 7]), ([8, 5], [8]), ([9], [9]), ([9], [9]), ([9], [9]), ([11, 12, 9, 9], [9, 11, 12]), ([10, 13, 13, 9], [9, 10, 13]), ([9, 14], [9, 14]), ([15, 14, 0, 1, 2, 3, 4, 5, 6, 7, 8, 9, 10, 11, 12, 13, 14, 15], [15])])
def Fb.B11 : List Nat := [0, 1, 3, 7, 15, 31, 63, 127, 255, 511, 1023, 1023, 1023, 7167, 16383, 32767, 65535]
theorem Fb.tab11 : rtab .any (opsOf Try.f3 11) = Fb.T11 := by kernel_rfl
theorem Fb.bits11 : waitsOk Fb.T11.2 Fb.B11 = true := by kernel_rfl
set_option maxHeartbeats 8000000 in
set_option maxRecDepth 100000 in
theorem Fb.calls (k : Nat) (i4 : ByteArray) (i5 : ByteArray) (j3 : Option Addr) (j6 : Nat) (f9 : List (S49)) (i6 : Int) (j4 : Option Addr) (j7 : Nat) (g0 : List (S51)) (a1 : Int) (r : Bool) (w : World) (k2 : Kd.C k49 w j3 f9.length f9) (k0 : f9.length ≤ j6) (k3 : Kd.C k51 w j4 g0.length g0) (k1 : g0.length ≤ j7) (h : Fb.f k i4 i5 f9 i6 g0 a1 = some r) :
  Calls Try.prog 3 #[.agg #[.string i4, .string i5, .slice j3 f9.length j6, .int .i64 i6, .slice j4 g0.length j7], .int .i64 a1] w fun e w' => e = .returned (.bool r) ∧ Below w.heap.size w w' := by
 have z7 := Try.underlying27
 have z6 := Try.underlying24
 have n3 := am k2
 have n1 := am k0
 clear k2 k0
 have n4 := am k3
 have n2 := am k1
 clear k3 k1
 have HB := am (Below.refl w.heap.size w)
 unfold Fb.f at h
 have H := h
 clear h
 replace H := Option.bind_eq_some_iff.mp H
 obtain ⟨⟨b6, b7, b5, c6, b8⟩, u8, H⟩ := H
 try dsimp only at H
 have A3 := am u8
 clear u8
 replace H := Option.bind_eq_some_iff.mp H
 obtain ⟨⟨e0, e1, d0, e2, d1, j8⟩, v1, H⟩ := H
 try dsimp only at H
 have A4 := am v1
 clear v1
 replace H := Option.bind_eq_some_iff.mp H
 obtain ⟨l0, v2, H⟩ := H
 try dsimp only at H
 have A5 := am v2
 clear v2
 have r9 := am H
 clear H
 go_enter Try.func3, Try.ntmps3
 go_upto_region 4 with (first | ((with_reducible refine gD 2 ?_); (try (refine gate_guard (by rfl) ?_; dsimp only)); refine bz 2 #[.string i4, .string i5, .slice j3 f9.length j6, .int .i64 i6, .slice j4 g0.length j7] 27 HB ?_; clear HB; intro a7 hg w7 hb a3 g7 HB; clear hb hg; have i9 := y5 a3) | ((with_reducible refine gC 9 ?_); refine gL 11 Try.func9 #[.agg #[.string i4, .string i5, .slice j3 f9.length j6, .int .i64 i6, .slice j4 g0.length j7]] ?_; (with_reducible refine (Gf.calls k i4 i5 (fun k_ => k_ < w.heap.size) _ _ f9 i6 (fun k_ => k_ < w.heap.size) _ _ g0 b6 b7 b5 c6 b8 _ ?side1 ?side2 A3.out).mono ?_); (case side1 => exact Kd.V_mk n1.out (Kd.F_below (Kd.C_F k49_heap n3.out) (pB HB.out))); (case side2 => exact Kd.V_mk n2.out (Kd.F_below (Kd.C_F k51_heap n4.out) (pB HB.out))); rintro e w9 ⟨z9, A1, rfl, f2, f3, hb⟩; refine ⟨_, rfl, ?_⟩; have c7 := am (Kd.V_lower (Kd.V_mono (ok' := fun k_ => k_ ≠ a7) f2 (fun k_ d2 => Or.elim d2 (fun b1 => Or.elim b1 (fun b1 => fun e_ => Nat.not_le.2 b1 (by rw [e_]; exact g7.out)) (fun b1 => fun e_ => Nat.not_le.2 b1 (by rw [e_]; exact g7.out))) (fun b9 => (Kd.freshB (pk a3.out) k_ b9)))) (below_size (pB HB.out))); have d3 := am (Kd.V_lower (Kd.V_mono (ok' := fun k_ => k_ ≠ a7) f3 (fun k_ d2 => Or.elim d2 (fun b1 => Or.elim b1 (fun b1 => fun e_ => Nat.not_le.2 b1 (by rw [e_]; exact g7.out)) (fun b1 => fun e_ => Nat.not_le.2 b1 (by rw [e_]; exact g7.out))) (fun b9 => (Kd.freshB (pk a3.out) k_ b9)))) (below_size (pB HB.out))); replace a3 := kB a3 hb; replace HB := bS HB hb; (try clear hb); (try clear hb2); (try clear hk); (try clear hi); (try clear f2); (try clear f3); have g9 := y5 a3; obtain ⟨c8, c9, s8⟩ := Kd.V_slice c7.out; subst s8; obtain ⟨d5, d6, s9⟩ := Kd.V_slice d3.out; subst s9) | ((with_reducible refine gate_store (t := 27) (p := 2) rfl ?_); refine store_event (t := 27) (p := 2) (v := ?vo_w13) (w1 := (((((w9.setCell ⟨a7, 0, none⟩ (.string b6)).setCell ⟨a7, 1, none⟩ (.string b7)).setCell ⟨a7, 2, none⟩ (.slice c8 b5.length c9)).setCell ⟨a7, 3, none⟩ (.int .i64 c6)).setCell ⟨a7, 4, none⟩ (.slice d5 b8.length d6))) ?hg ?ho ?hn ?hr ?_; (case ho => rfl); (case hg => rfl); (case hn => rfl); (case hr => first | (go_simp; done) | (go_simp; rfl)); intro r0 hw; have x3 : Aside0 (Kd.V k49 49 r0 w.heap.size (fun k_ => k_ ≠ a7) (.slice c8 b5.length c9) b5) := ⟨(by rw [hw]; exact (pV c7.out))⟩; have x4 : Aside0 (Kd.V k51 51 r0 w.heap.size (fun k_ => k_ ≠ a7) (.slice d5 b8.length d6) b8) := ⟨(by rw [hw]; exact (pV d3.out))⟩; have x5 : Aside0 (r0.heap[a7]? = some (.cells #[.string b6, .string b7, .slice c8 b5.length c9, .int .i64 c6, .slice d5 b8.length d6] 27 (0, 0))) := ⟨(by rw [hw]; exact (pP a3.out))⟩; have x6 : Aside0 (Below w.heap.size w r0) := ⟨(by rw [hw]; exact (pB HB.out))⟩; clear hw c7 d3 a3 HB; have c7 := x3; have d3 := x4; have a3 := x5; have HB := x6; clear x3 x4 x5 x6; have h0 := y5 a3) | ((with_reducible refine gC 10 ?_); refine gL 17 Try.func10 #[.string b6, .agg #[.string b7, .slice c8 b5.length c9]] ?_; (with_reducible refine (Gh.calls k b6 b7 (fun k_ => k_ ≠ a7) _ _ b5 e0 e1 d0 e2 d1 j8 _ ?side1 A4.out).mono ?_); (case side1 => exact c7.out); rintro e B3 ⟨A6, A7, rfl, f2, f3, hb⟩; refine ⟨_, rfl, ?_⟩; replace c7 := vB c7 hb; replace d3 := vB d3 hb; have e9 := am (Kd.V_lower (Kd.V_mono (ok' := fun k_ => k_ ≠ a7) f2 (fun k_ d2 => Or.elim d2 (fun b1 => b1) (fun b9 => (Kd.freshB (pk a3.out) k_ b9)))) (below_size (pB HB.out))); have f0 := am (Kd.V_lower (Kd.V_mono (ok' := fun k_ => k_ ≠ a7) f3 (fun k_ d2 => Or.elim d2 (fun b1 => b1) (fun b9 => (Kd.freshB (pk a3.out) k_ b9)))) (below_size (pB HB.out))); replace a3 := kB a3 hb; replace HB := bS HB hb; (try clear hb); (try clear hb2); (try clear hk); (try clear hi); (try clear f2); (try clear f3)) | ((with_reducible refine gD 5 ?_); (try (refine gate_guard (by rfl) ?_; dsimp only)); refine bz 5 #[.string (⟨#[]⟩ : ByteArray), .string (⟨#[]⟩ : ByteArray), .slice none 0 0, .int .i64 0, .slice none 0 0] 27 HB ?_; clear HB; intro a9 hg B4 hb a6 v5 HB; replace c7 := vE c7 hg hb; replace d3 := vE d3 hg hb; replace e9 := vE e9 hg hb; replace f0 := vE f0 hg hb; have d9 := nL hg a3; have h6 := nG hg a3; replace a3 := kB a3 hb; clear hb hg; have v9 := nn h6; have h2 := y5 a6; obtain ⟨e3, e7, t0⟩ := Kd.V_slice e9.out; subst t0; obtain ⟨e4, e8, t1⟩ := Kd.V_slice f0.out; subst t1; have h3 := y5 a3) | ((with_reducible refine gC 11 ?_); refine gL 22 Try.func11 #[.agg #[.string b7, .slice c8 b5.length c9]] ?_; (with_reducible refine (Fm.calls k b7 _ _ b5 l0 _ ?side1 ?side2 A5.out).mono ?_); (case side1 => exact (Kd.V_reads' (pV c7.out)).2.2); (case side2 => exact (Kd.V_reads' c7.out).2.1); rintro e B5 ⟨rfl, hb⟩; refine ⟨_, rfl, ?_⟩; replace c7 := vB c7 hb; replace d3 := vB d3 hb; replace e9 := vB e9 hb; replace f0 := vB f0 hb; replace a3 := kB a3 hb; replace a6 := am (blk_below (g := a9) (o := .cells #[.string e0, .string e1, .slice e3 d0.length e7, .int .i64 e2, .slice e4 d1.length e8] 27 (0, 0)) (pP a6.out) hb); replace HB := bS HB hb; (try clear hb); (try clear hb2); (try clear hk); (try clear hi)))
 (try simp only [Act.put, List.setIfInBounds_toArray, List.set_cons_zero, List.set_cons_succ])
 go_cut [32] (fun A2 wc => ∃ (kq : Nat) (h4 : Bool), A2 = .bool h4 ∧ Aside0 (Fb.j0 kq a1 j8 l0 h4 b6 b7 b5 c6 b8 e0 e1 d0 e2 d1 = some r) ∧ Aside0 (kq ≤ k) ∧ Aside0 (Kd.V k49 49 wc w.heap.size (fun k_ => k_ ≠ a7 ∧ k_ ≠ a9) (.slice c8 b5.length c9) b5) ∧ Aside0 (Kd.V k51 51 wc w.heap.size (fun k_ => k_ ≠ a7 ∧ k_ ≠ a9) (.slice d5 b8.length d6) b8) ∧ Aside0 (Kd.V k49 49 wc w.heap.size (fun k_ => k_ ≠ a7 ∧ k_ ≠ a9) (.slice e3 d0.length e7) d0) ∧ Aside0 (Kd.V k51 51 wc w.heap.size (fun k_ => k_ ≠ a7 ∧ k_ ≠ a9) (.slice e4 d1.length e8) d1) ∧ Aside0 (wc.heap[a7]? = some (.cells #[.string b6, .string b7, (.slice c8 b5.length c9), .int .i64 c6, (.slice d5 b8.length d6)] 27 (0, 0))) ∧ Aside0 (wc.heap[a9]? = some (.cells #[.string e0, .string e1, (.slice e3 d0.length e7), .int .i64 e2, (.slice e4 d1.length e8)] 27 (0, 0))) ∧ Aside0 (Below w.heap.size w wc))
 case first =>
  have H := r9.out
  clear r9
  by_cases l7 : (b6.size : Int) < 1
  ·
   rw [if_pos l7] at H
   have f7 := decide_eq_true l7
   have n5 : decide (b6.size < 1) = true := decide_eq_true (by omega)
   clear l7
   (first | rw [f7] | (simp only [i64_w, i32_w]; rw [f7]) | skip)
   have H' := am H
   clear H
   have w2 := nn d9
   have q0 := y5 a3
   go_wp2
   go_meet
   case rel => exact ⟨_, (true), el, H', ol, ⟨(pV c7.out)⟩, ⟨(pV d3.out)⟩, ⟨(pV e9.out)⟩, ⟨(pV f0.out)⟩, ⟨pk a3.out⟩, ⟨pk a6.out⟩, ⟨pB HB.out⟩⟩
  rw [if_neg l7] at H
  have f7 := decide_eq_false l7
  have n5 : decide (b6.size < 1) = false := decide_eq_false (by omega)
  clear l7
  (first | rw [f7] | (simp only [i64_w, i32_w]; rw [f7]) | skip)
  have H' := am H
  clear H
  have w3 := nn d9
  have q1 := y5 a3
  go_wp2
  go_meet
  case rel => exact ⟨_, (decide ((b6.size : Int) > 16)), el, H', ol, ⟨(pV c7.out)⟩, ⟨(pV d3.out)⟩, ⟨(pV e9.out)⟩, ⟨(pV f0.out)⟩, ⟨pk a3.out⟩, ⟨pk a6.out⟩, ⟨pB HB.out⟩⟩
 case rest =>
  clear r9
  try clear g9
  try clear h0
  try clear h2
  try clear h3
  try clear i9
  obtain ⟨kq, h4, rfl, HA, l6, a0, a2, a4, a5, a3, a6, HB⟩ := hcut
  cases kq with
  | zero => exact absurd HA.out (by simp [Fb.j0])
  | succ z8 =>
   have H := HA.out
   clear HA
   simp only [Fb.j0] at H
   have k6 := am H
   clear H
   go_upto_if 32 with (fail)
   go_cut [7] (fun v7 wc => ∃ (kq : Nat) (g6 : Int), v7 = .int .i64 g6 ∧ Aside0 (Fb.j1 kq a1 j8 g6 b6 b7 b5 c6 b8 e0 e1 d0 e2 d1 = some r) ∧ Aside0 (kq ≤ z8) ∧ Aside0 (Kd.V k49 49 wc w.heap.size (fun k_ => k_ ≠ a7 ∧ k_ ≠ a9) (.slice c8 b5.length c9) b5) ∧ Aside0 (Kd.V k51 51 wc w.heap.size (fun k_ => k_ ≠ a7 ∧ k_ ≠ a9) (.slice d5 b8.length d6) b8) ∧ Aside0 (Kd.V k49 49 wc w.heap.size (fun k_ => k_ ≠ a7 ∧ k_ ≠ a9) (.slice e3 d0.length e7) d0) ∧ Aside0 (Kd.V k51 51 wc w.heap.size (fun k_ => k_ ≠ a7 ∧ k_ ≠ a9) (.slice e4 d1.length e8) d1) ∧ Aside0 (wc.heap[a7]? = some (.cells #[.string b6, .string b7, (.slice c8 b5.length c9), .int .i64 c6, (.slice d5 b8.length d6)] 27 (0, 0))) ∧ Aside0 (wc.heap[a9]? = some (.cells #[.string e0, .string e1, (.slice e3 d0.length e7), .int .i64 e2, (.slice e4 d1.length e8)] 27 (0, 0))) ∧ Aside0 (Below w.heap.size w wc))
   case first =>
    have H := k6.out
    clear k6
    by_cases p1 : h4 = true
    ·
     subst p1
     rw [if_pos rfl] at H
     try dsimp only at H
     have H' := am H
     clear H
     go_wp2
     go_meet
     case rel => exact ⟨_, (1), el, H', ⟨by have := l6.out; first | omega | exact Nat.le_refl _⟩, ⟨(pV a0.out)⟩, ⟨(pV a2.out)⟩, ⟨(pV a4.out)⟩, ⟨(pV a5.out)⟩, ⟨pk a3.out⟩, ⟨pk a6.out⟩, ⟨pB HB.out⟩⟩
    replace p1 := Bool.eq_false_iff.mpr p1
    subst p1
    rw [if_neg (show ¬ (false = true) by decide)] at H
    try dsimp only at H
    have H' := am H
    clear H
    go_wp2
    go_meet
    case rel => exact ⟨_, (l0), el, H', ⟨by have := l6.out; first | omega | exact Nat.le_refl _⟩, ⟨(pV a0.out)⟩, ⟨(pV a2.out)⟩, ⟨(pV a4.out)⟩, ⟨(pV a5.out)⟩, ⟨pk a3.out⟩, ⟨pk a6.out⟩, ⟨pB HB.out⟩⟩
   case rest =>
    clear k6
    try clear g9
    try clear h0
    try clear h2
    try clear h3
    try clear i9
    obtain ⟨kq, g6, rfl, HA, j5, a0, a2, a4, a5, a3, a6, HB⟩ := hcut
    cases kq with
    | zero => exact absurd HA.out (by simp [Fb.j1])
    | succ h8 =>
     have H := HA.out
     clear HA
     simp only [Fb.j1] at H
     have k7 := am H
     clear H
     go_upto_region 6 with (fail)
     go_cut [59] (fun B0 wc => ∃ (kq : Nat) (f4 : Bool), B0 = .bool f4 ∧ Aside0 (Fb.j2 kq a1 f4 b6 b7 b5 c6 b8 = some r) ∧ Aside0 (kq ≤ h8) ∧ Aside0 (Kd.V k49 49 wc w.heap.size (fun k_ => k_ ≠ a7 ∧ k_ ≠ a9) (.slice c8 b5.length c9) b5) ∧ Aside0 (Kd.V k51 51 wc w.heap.size (fun k_ => k_ ≠ a7 ∧ k_ ≠ a9) (.slice d5 b8.length d6) b8) ∧ Aside0 (Kd.V k49 49 wc w.heap.size (fun k_ => k_ ≠ a7 ∧ k_ ≠ a9) (.slice e3 d0.length e7) d0) ∧ Aside0 (Kd.V k51 51 wc w.heap.size (fun k_ => k_ ≠ a7 ∧ k_ ≠ a9) (.slice e4 d1.length e8) d1) ∧ Aside0 (wc.heap[a7]? = some (.cells #[.string b6, .string b7, (.slice c8 b5.length c9), .int .i64 c6, (.slice d5 b8.length d6)] 27 (0, 0))) ∧ Aside0 (wc.heap[a9]? = some (.cells #[.string e0, .string e1, (.slice e3 d0.length e7), .int .i64 e2, (.slice e4 d1.length e8)] 27 (0, 0))) ∧ Aside0 (Below w.heap.size w wc))
     case first =>
      have H := k7.out
      clear k7
      by_cases n6 : j8 = g6
      ·
       rw [if_pos n6] at H
       obtain ⟨f8, n7⟩ := qt n6
       clear n6
       (first | rw [f8] | (simp only [i64_w, i32_w]; rw [f8]) | skip)
       by_cases n8 : g6 = 0
       ·
        rw [if_pos n8] at H
        obtain ⟨n9, o0⟩ := qt n8
        clear n8
        replace H := Option.bind_eq_some_iff.mp H
        obtain ⟨⟨h9, i0, i1, i2, i3⟩, l8, H⟩ := H
        try dsimp only at H
        have u9 := am l8
        clear l8
        replace H := Option.bind_eq_some_iff.mp H
        obtain ⟨t6, l9, H⟩ := H
        try dsimp only at H
        have v0 := am l9
        clear l9
        by_cases p2 : t6 = true
        ·
         subst p2
         rw [if_pos rfl] at H
         try dsimp only at H
         have H' := am H
         clear H
         try go_wp2
         replace a0 := am (Kd.V_drew a0.out)
         replace a2 := am (Kd.V_drew a2.out)
         replace a4 := am (Kd.V_drew a4.out)
         replace a5 := am (Kd.V_drew a5.out)
         replace a3 := am (blk_drew a3.out)
         replace a6 := am (blk_drew a6.out)
         replace HB := am (below_drew1 HB.out)
         refine start_ (n := 27) (S := fun w' => w'.cell? ⟨a9, 0, none⟩ = some (.string e0) ∧ w'.cell? ⟨a9, 1, none⟩ = some (.string e1) ∧ w'.cell? ⟨a9, 2, none⟩ = some (.slice e3 d0.length e7) ∧ w'.cell? ⟨a9, 3, none⟩ = some (.int .i64 e2) ∧ w'.cell? ⟨a9, 4, none⟩ = some (.slice e4 d1.length e8) ∧ w'.cell? ⟨a7, 0, none⟩ = some (.string b6) ∧ w'.cell? ⟨a7, 1, none⟩ = some (.string b7) ∧ w'.cell? ⟨a7, 2, none⟩ = some (.slice c8 b5.length c9) ∧ w'.cell? ⟨a7, 3, none⟩ = some (.int .i64 c6) ∧ w'.cell? ⟨a7, 4, none⟩ = some (.slice d5 b8.length d6)) (ds := []) (ba 27 0) (by kernel_rfl) rfl rfl ⟨bc a6.out, bc a6.out, bc a6.out, bc a6.out, bc a6.out, bc a3.out, bc a3.out, bc a3.out, bc a3.out, bc a3.out⟩ (fun b4 => ?_); refine with_tabW Fb.tab6 Fb.bits6 (fun b0 g8 => ?_)
         generalize wc.drew = B6 at a0 a2 a4 a5 a3 a6 HB b4 ⊢
         refine pu 0 33 (ba 27 1) b0 ?_
         refine pu 1 34 (ba 27 3) b0 ?_
         refine pu 2 35 (ba 27 7) b0 ?_
         refine pu 3 36 (ba 27 15) b0 ?_
         refine pu 4 37 (ba 27 31) b0 ?_
         refine pu 5 38 (ba 27 63) b0 ?_
         refine pu 6 39 (ba 27 127) b0 ?_
         refine pu 8 41 (ba 27 383) b0 ?_
         refine pu 10 43 (ba 27 1407) b0 ?_
         refine tk 7 40 (ba 27 1535) b0 g8 b4 ?_
         refine tk 9 42 (ba 27 2047) b0 g8 b4 ?_
         refine tk 11 44 (ba 27 4095) b0 g8 b4 ?_
         refine one_ (i := 12) (N := some 45) (ba 27 8191) rfl rfl (one_of b0.out (by kernel_rfl)) (by decide) (fun K hK => ?_)
         refine goes_ Try.func13 (by kernel_rfl) rfl #[.string b6, .agg #[.string b7, .slice c8 b5.length c9]] (by rfl) rfl rfl (by (try simp only [List.map_toArray, List.map_cons, List.map_nil]); first | done | rfl | (simp only [List.length_drop, List.length_take]; rfl)) ?_
         with_reducible refine (Fw.calls h8 b6 b7 (fun k_ => (k_ ≠ a7 ∧ k_ ≠ a9)) _ _ b5 h9 i0 i1 i2 i3 _ ?side1 u9.out).mono ?_
         (case side1 => exact a0.out)
         rintro e B7 ⟨u4, u5, rfl, f2, f3, hb⟩
         refine ⟨_, rfl, ?_⟩
         replace a0 := vB a0 hb
         replace a2 := vB a2 hb
         replace a4 := vB a4 hb
         replace a5 := vB a5 hb
         have d7 := am (Kd.V_lower (Kd.V_mono (ok' := fun k_ => k_ ≠ a7 ∧ k_ ≠ a9) f2 (fun k_ d2 => ⟨Or.elim d2 (fun b1 => b1.1) (fun b9 => (Kd.freshB (pk a3.out) k_ b9)), Or.elim d2 (fun b1 => b1.2) (fun b9 => (Kd.freshB (pk a6.out) k_ b9))⟩)) (below_size (pB HB.out)))
         have d8 := am (Kd.V_lower (Kd.V_mono (ok' := fun k_ => k_ ≠ a7 ∧ k_ ≠ a9) f3 (fun k_ d2 => ⟨Or.elim d2 (fun b1 => b1.1) (fun b9 => (Kd.freshB (pk a3.out) k_ b9)), Or.elim d2 (fun b1 => b1.2) (fun b9 => (Kd.freshB (pk a6.out) k_ b9))⟩)) (below_size (pB HB.out)))
         replace a3 := kB a3 hb
         replace a6 := kB a6 hb
         replace HB := bS HB hb
         (try clear hb)
         (try clear hb2)
         (try clear hk)
         (try clear hi)
         (try clear f2)
         (try clear f3)
         obtain ⟨r1, s0, o4⟩ := Kd.V_slice d7.out
         (first | subst o4 | (injection o4 with f1_ f2_ f3_; have i7 := f1_.symm; have i8 := f3_.symm; clear f1_ f2_ f3_; subst i7; subst i8))
         obtain ⟨r2, s1, o5⟩ := Kd.V_slice d8.out
         (first | subst o5 | (injection o5 with f1_ f2_ f3_; have i7 := f1_.symm; have i8 := f3_.symm; clear f1_ f2_ f3_; subst i7; subst i8))
         refine hK.out _ _ ⟨bc a6.out, bc a6.out, bc a6.out, bc a6.out, bc a6.out, bc a3.out, bc a3.out, bc a3.out, bc a3.out, bc a3.out⟩ (fun b4 => ?_)
         clear hK K
         refine nh ?_
         refine one_ (i := 13) (N := some 46) (ba 27 16383) rfl rfl (one_of b0.out (by kernel_rfl)) (by decide) (fun K hK => ?_)
         refine goes_ Try.func12 (by kernel_rfl) rfl #[.agg #[.string e0, .string e1, .slice e3 d0.length e7, .int .i64 e2, .slice e4 d1.length e8], .agg #[.string h9, .string i0, .slice r1 i1.length s0, .int .i64 i2, .slice r2 i3.length s1]] (by rfl) rfl rfl (by (try simp only [List.map_toArray, List.map_cons, List.map_nil]); first | done | rfl | (simp only [List.length_drop, List.length_take]; rfl)) ?_
         with_reducible refine (Fv.calls h8 e0 e1 _ _ d0 e2 _ _ d1 h9 i0 _ _ i1 i2 _ _ i3 true _ ?side1 ?side2 ?side3 ?side4 ?side5 ?side6 ?side7 ?side8 v0.out).mono ?_
         (case side1 => exact pC ((Kd.V_reads' a4.out).2.2))
         (case side2 => exact (Kd.V_reads' a4.out).2.1)
         (case side3 => exact pC ((Kd.V_reads' a5.out).2.2))
         (case side4 => exact (Kd.V_reads' a5.out).2.1)
         (case side5 => exact pC ((Kd.V_reads' d7.out).2.2))
         (case side6 => exact (Kd.V_reads' d7.out).2.1)
         (case side7 => exact pC ((Kd.V_reads' d8.out).2.2))
         (case side8 => exact (Kd.V_reads' d8.out).2.1)
         rintro e B8 ⟨rfl, hb⟩
         refine ⟨_, rfl, ?_⟩
         replace a0 := vB a0 hb
         replace a2 := vB a2 hb
         replace a4 := vB a4 hb
         replace a5 := vB a5 hb
         replace d7 := vB d7 hb
         replace d8 := vB d8 hb
         replace a3 := kB a3 hb
         replace a6 := kB a6 hb
         replace HB := bS HB hb
         (try clear hb)
         (try clear hb2)
         (try clear hk)
         (try clear hi)
         refine hK.out _ _ ⟨bc a6.out, bc a6.out, bc a6.out, bc a6.out, bc a6.out, bc a3.out, bc a3.out, bc a3.out, bc a3.out, bc a3.out⟩ (fun b4 => ?_)
         clear hK K
         refine nh ?_
         refine pu 14 47 (ba 27 32767) b0 ?_
         refine pu 15 48 (ba 27 65535) b0 ?_
         refine pu 16 49 (ba 27 131071) b0 ?_
         refine pu 17 50 (ba 27 262143) b0 ?_
         refine pu 18 51 (ba 27 524287) b0 ?_
         refine pu 19 52 (ba 27 1048575) b0 ?_
         refine pu 20 53 (ba 27 2097151) b0 ?_
         refine pe 21 54 (ba 27 4194303) b0 ?_
         refine pe 22 55 (ba 27 8388607) b0 ?_
         refine pe 23 56 (ba 27 16777215) b0 ?_
         refine pe 24 57 (ba 27 33554431) b0 ?_
         refine pu 25 58 (ba 27 67108863) b0 ?_
         refine pu 26 59 (ba 27 134217727) b0 ?_
         refine done_ (done_of b0.out (by kernel_rfl)) ?_
         try go_wp2
         go_meet
         case rel => exact ⟨_, (false), el, H', ⟨by have := l6.out; have := j5.out; first | omega | exact Nat.le_refl _⟩, ⟨(pV a0.out)⟩, ⟨(pV a2.out)⟩, ⟨(pV a4.out)⟩, ⟨(pV a5.out)⟩, ⟨pk a3.out⟩, ⟨pk a6.out⟩, ⟨pB HB.out⟩⟩
        replace p2 := Bool.eq_false_iff.mpr p2
        subst p2
        rw [if_neg (show ¬ (false = true) by decide)] at H
        try dsimp only at H
        have H' := am H
        clear H
        try go_wp2
        replace a0 := am (Kd.V_drew a0.out)
        replace a2 := am (Kd.V_drew a2.out)
        replace a4 := am (Kd.V_drew a4.out)
        replace a5 := am (Kd.V_drew a5.out)
        replace a3 := am (blk_drew a3.out)
        replace a6 := am (blk_drew a6.out)
        replace HB := am (below_drew1 HB.out)
        refine start_ (n := 27) (S := fun w' => w'.cell? ⟨a9, 0, none⟩ = some (.string e0) ∧ w'.cell? ⟨a9, 1, none⟩ = some (.string e1) ∧ w'.cell? ⟨a9, 2, none⟩ = some (.slice e3 d0.length e7) ∧ w'.cell? ⟨a9, 3, none⟩ = some (.int .i64 e2) ∧ w'.cell? ⟨a9, 4, none⟩ = some (.slice e4 d1.length e8) ∧ w'.cell? ⟨a7, 0, none⟩ = some (.string b6) ∧ w'.cell? ⟨a7, 1, none⟩ = some (.string b7) ∧ w'.cell? ⟨a7, 2, none⟩ = some (.slice c8 b5.length c9) ∧ w'.cell? ⟨a7, 3, none⟩ = some (.int .i64 c6) ∧ w'.cell? ⟨a7, 4, none⟩ = some (.slice d5 b8.length d6)) (ds := []) (ba 27 0) (by kernel_rfl) rfl rfl ⟨bc a6.out, bc a6.out, bc a6.out, bc a6.out, bc a6.out, bc a3.out, bc a3.out, bc a3.out, bc a3.out, bc a3.out⟩ (fun b4 => ?_); refine with_tabW Fb.tab6 Fb.bits6 (fun b0 g8 => ?_)
        generalize wc.drew = B9 at a0 a2 a4 a5 a3 a6 HB b4 ⊢
        refine pu 0 33 (ba 27 1) b0 ?_
        refine pu 1 34 (ba 27 3) b0 ?_
        refine pu 2 35 (ba 27 7) b0 ?_
        refine pu 3 36 (ba 27 15) b0 ?_
        refine pu 4 37 (ba 27 31) b0 ?_
        refine pu 5 38 (ba 27 63) b0 ?_
        refine pu 6 39 (ba 27 127) b0 ?_
        refine pu 8 41 (ba 27 383) b0 ?_
        refine pu 10 43 (ba 27 1407) b0 ?_
        refine tk 7 40 (ba 27 1535) b0 g8 b4 ?_
        refine tk 9 42 (ba 27 2047) b0 g8 b4 ?_
        refine tk 11 44 (ba 27 4095) b0 g8 b4 ?_
        refine one_ (i := 12) (N := some 45) (ba 27 8191) rfl rfl (one_of b0.out (by kernel_rfl)) (by decide) (fun K hK => ?_)
        refine goes_ Try.func13 (by kernel_rfl) rfl #[.string b6, .agg #[.string b7, .slice c8 b5.length c9]] (by rfl) rfl rfl (by (try simp only [List.map_toArray, List.map_cons, List.map_nil]); first | done | rfl | (simp only [List.length_drop, List.length_take]; rfl)) ?_
        with_reducible refine (Fw.calls h8 b6 b7 (fun k_ => (k_ ≠ a7 ∧ k_ ≠ a9)) _ _ b5 h9 i0 i1 i2 i3 _ ?side1 u9.out).mono ?_
        (case side1 => exact a0.out)
        rintro e C0 ⟨u4, u5, rfl, f2, f3, hb⟩
        refine ⟨_, rfl, ?_⟩
        replace a0 := vB a0 hb
        replace a2 := vB a2 hb
        replace a4 := vB a4 hb
        replace a5 := vB a5 hb
        have d7 := am (Kd.V_lower (Kd.V_mono (ok' := fun k_ => k_ ≠ a7 ∧ k_ ≠ a9) f2 (fun k_ d2 => ⟨Or.elim d2 (fun b1 => b1.1) (fun b9 => (Kd.freshB (pk a3.out) k_ b9)), Or.elim d2 (fun b1 => b1.2) (fun b9 => (Kd.freshB (pk a6.out) k_ b9))⟩)) (below_size (pB HB.out)))
        have d8 := am (Kd.V_lower (Kd.V_mono (ok' := fun k_ => k_ ≠ a7 ∧ k_ ≠ a9) f3 (fun k_ d2 => ⟨Or.elim d2 (fun b1 => b1.1) (fun b9 => (Kd.freshB (pk a3.out) k_ b9)), Or.elim d2 (fun b1 => b1.2) (fun b9 => (Kd.freshB (pk a6.out) k_ b9))⟩)) (below_size (pB HB.out)))
        replace a3 := kB a3 hb
        replace a6 := kB a6 hb
        replace HB := bS HB hb
        (try clear hb)
        (try clear hb2)
        (try clear hk)
        (try clear hi)
        (try clear f2)
        (try clear f3)
        obtain ⟨r3, s2, o6⟩ := Kd.V_slice d7.out
        (first | subst o6 | (injection o6 with f1_ f2_ f3_; have i7 := f1_.symm; have i8 := f3_.symm; clear f1_ f2_ f3_; subst i7; subst i8))
        obtain ⟨r4, s3, o7⟩ := Kd.V_slice d8.out
        (first | subst o7 | (injection o7 with f1_ f2_ f3_; have i7 := f1_.symm; have i8 := f3_.symm; clear f1_ f2_ f3_; subst i7; subst i8))
        refine hK.out _ _ ⟨bc a6.out, bc a6.out, bc a6.out, bc a6.out, bc a6.out, bc a3.out, bc a3.out, bc a3.out, bc a3.out, bc a3.out⟩ (fun b4 => ?_)
        clear hK K
        refine nh ?_
        refine one_ (i := 13) (N := some 46) (ba 27 16383) rfl rfl (one_of b0.out (by kernel_rfl)) (by decide) (fun K hK => ?_)
        refine goes_ Try.func12 (by kernel_rfl) rfl #[.agg #[.string e0, .string e1, .slice e3 d0.length e7, .int .i64 e2, .slice e4 d1.length e8], .agg #[.string h9, .string i0, .slice r3 i1.length s2, .int .i64 i2, .slice r4 i3.length s3]] (by rfl) rfl rfl (by (try simp only [List.map_toArray, List.map_cons, List.map_nil]); first | done | rfl | (simp only [List.length_drop, List.length_take]; rfl)) ?_
        with_reducible refine (Fv.calls h8 e0 e1 _ _ d0 e2 _ _ d1 h9 i0 _ _ i1 i2 _ _ i3 false _ ?side1 ?side2 ?side3 ?side4 ?side5 ?side6 ?side7 ?side8 v0.out).mono ?_
        (case side1 => exact pC ((Kd.V_reads' a4.out).2.2))
        (case side2 => exact (Kd.V_reads' a4.out).2.1)
        (case side3 => exact pC ((Kd.V_reads' a5.out).2.2))
        (case side4 => exact (Kd.V_reads' a5.out).2.1)
        (case side5 => exact pC ((Kd.V_reads' d7.out).2.2))
        (case side6 => exact (Kd.V_reads' d7.out).2.1)
        (case side7 => exact pC ((Kd.V_reads' d8.out).2.2))
        (case side8 => exact (Kd.V_reads' d8.out).2.1)
        rintro e C1 ⟨rfl, hb⟩
        refine ⟨_, rfl, ?_⟩
        replace a0 := vB a0 hb
        replace a2 := vB a2 hb
        replace a4 := vB a4 hb
        replace a5 := vB a5 hb
        replace d7 := vB d7 hb
        replace d8 := vB d8 hb
        replace a3 := kB a3 hb
        replace a6 := kB a6 hb
        replace HB := bS HB hb
        (try clear hb)
        (try clear hb2)
        (try clear hk)
        (try clear hi)
        refine hK.out _ _ ⟨bc a6.out, bc a6.out, bc a6.out, bc a6.out, bc a6.out, bc a3.out, bc a3.out, bc a3.out, bc a3.out, bc a3.out⟩ (fun b4 => ?_)
        clear hK K
        refine nh ?_
        refine pu 14 47 (ba 27 32767) b0 ?_
        refine pu 15 48 (ba 27 65535) b0 ?_
        refine pu 16 49 (ba 27 131071) b0 ?_
        refine pu 17 50 (ba 27 262143) b0 ?_
        refine pe 18 51 (ba 27 524287) b0 ?_
        refine pe 19 52 (ba 27 1048575) b0 ?_
        refine pe 20 53 (ba 27 2097151) b0 ?_
        refine pe 21 54 (ba 27 4194303) b0 ?_
        refine pe 22 55 (ba 27 8388607) b0 ?_
        refine pe 23 56 (ba 27 16777215) b0 ?_
        refine pe 24 57 (ba 27 33554431) b0 ?_
        refine pe 25 58 (ba 27 67108863) b0 ?_
        refine pu 26 59 (ba 27 134217727) b0 ?_
        refine done_ (done_of b0.out (by kernel_rfl)) ?_
        try go_wp2
        go_meet
        case rel => exact ⟨_, (true), el, H', ⟨by have := l6.out; have := j5.out; first | omega | exact Nat.le_refl _⟩, ⟨(pV a0.out)⟩, ⟨(pV a2.out)⟩, ⟨(pV a4.out)⟩, ⟨(pV a5.out)⟩, ⟨pk a3.out⟩, ⟨pk a6.out⟩, ⟨pB HB.out⟩⟩
       rw [if_neg n8] at H
       obtain ⟨n9, o0⟩ := qf n8
       replace H := Option.bind_eq_some_iff.mp H
       obtain ⟨p0, m0, H⟩ := H
       try dsimp only at H
       have x7 := am m0
       clear m0
       have H' := am H
       clear H
       try go_wp2
       replace a0 := am (Kd.V_drew a0.out)
       replace a2 := am (Kd.V_drew a2.out)
       replace a4 := am (Kd.V_drew a4.out)
       replace a5 := am (Kd.V_drew a5.out)
       replace a3 := am (blk_drew a3.out)
       replace a6 := am (blk_drew a6.out)
       replace HB := am (below_drew1 HB.out)
       refine start_ (n := 27) (S := fun w' => w'.cell? ⟨a9, 0, none⟩ = some (.string e0) ∧ w'.cell? ⟨a9, 1, none⟩ = some (.string e1) ∧ w'.cell? ⟨a9, 2, none⟩ = some (.slice e3 d0.length e7) ∧ w'.cell? ⟨a9, 3, none⟩ = some (.int .i64 e2) ∧ w'.cell? ⟨a9, 4, none⟩ = some (.slice e4 d1.length e8)) (ds := []) (ba 27 0) (by kernel_rfl) rfl rfl ⟨bc a6.out, bc a6.out, bc a6.out, bc a6.out, bc a6.out⟩ (fun b4 => ?_); refine with_tabW Fb.tab6 Fb.bits6 (fun b0 g8 => ?_)
       generalize wc.drew = C2 at a0 a2 a4 a5 a3 a6 HB b4 ⊢
       refine pu 0 33 (ba 27 1) b0 ?_
       refine pu 1 34 (ba 27 3) b0 ?_
       refine pu 2 35 (ba 27 7) b0 ?_
       refine pu 3 36 (ba 27 15) b0 ?_
       refine pu 4 37 (ba 27 31) b0 ?_
       refine pu 5 38 (ba 27 63) b0 ?_
       refine pu 6 39 (ba 27 127) b0 ?_
       refine pe 7 40 (ba 27 255) b0 ?_
       refine pe 8 41 (ba 27 511) b0 ?_
       refine pe 9 42 (ba 27 1023) b0 ?_
       refine pe 10 43 (ba 27 2047) b0 ?_
       refine pe 11 44 (ba 27 4095) b0 ?_
       refine pe 12 45 (ba 27 8191) b0 ?_
       refine pe 13 46 (ba 27 16383) b0 ?_
       refine pe 14 47 (ba 27 32767) b0 ?_
       refine pu 15 48 (ba 27 65535) b0 ?_
       refine pu 16 49 (ba 27 131071) b0 ?_
       refine pu 17 50 (ba 27 262143) b0 ?_
       refine pu 18 51 (ba 27 524287) b0 ?_
       refine pu 19 52 (ba 27 1048575) b0 ?_
       refine pu 20 53 (ba 27 2097151) b0 ?_
       refine pu 22 55 (ba 27 6291455) b0 ?_
       refine tk 21 54 (ba 27 8388607) b0 g8 b4 ?_
       refine one_ (i := 23) (N := some 56) (ba 27 16777215) rfl rfl (one_of b0.out (by kernel_rfl)) (by decide) (fun K hK => ?_)
       refine goes_ Try.func12 (by kernel_rfl) rfl #[.agg #[.string e0, .string e1, .slice e3 d0.length e7, .int .i64 e2, .slice e4 d1.length e8], .agg #[.string (⟨#[]⟩ : ByteArray), .string (⟨#[]⟩ : ByteArray), .slice none 0 0, .int .i64 0, .slice none 0 0]] (by rfl) rfl rfl (by (try simp only [List.map_toArray, List.map_cons, List.map_nil]); first | done | rfl | (simp only [List.length_drop, List.length_take]; rfl)) ?_
       refine (Fv.calls h8 e0 e1 _ _ d0 e2 _ _ d1 (⟨#[]⟩ : ByteArray) (⟨#[]⟩ : ByteArray) _ _ ([] : List (S49)) 0 _ _ ([] : List (S51)) p0 _ ?side1 ?side2 ?side3 ?side4 ?side5 ?side6 ?side7 ?side8 x7.out).mono ?_
       (case side1 => exact pC ((Kd.V_reads' a4.out).2.2))
       (case side2 => exact (Kd.V_reads' a4.out).2.1)
       (case side3 => exact pC ((Kd.V_reads' a5.out).2.2))
       (case side4 => exact (Kd.V_reads' a5.out).2.1)
       (case side5 => exact Kd.C_nil _ _)
       (case side6 => exact Nat.le_refl _)
       (case side7 => exact Kd.C_nil _ _)
       (case side8 => exact Nat.le_refl _)
       rintro e C3 ⟨rfl, hb⟩
       refine ⟨_, rfl, ?_⟩
       replace a0 := vB a0 hb
       replace a2 := vB a2 hb
       replace a4 := vB a4 hb
       replace a5 := vB a5 hb
       replace a3 := kB a3 hb
       replace a6 := kB a6 hb
       replace HB := bS HB hb
       (try clear hb)
       (try clear hb2)
       (try clear hk)
       (try clear hi)
       refine hK.out _ _ ⟨bc a6.out, bc a6.out, bc a6.out, bc a6.out, bc a6.out⟩ (fun b4 => ?_)
       clear hK K
       refine nh ?_
       refine pu 24 57 (ba 27 33554431) b0 ?_
       refine pu 25 58 (ba 27 67108863) b0 ?_
       refine pu 26 59 (ba 27 134217727) b0 ?_
       refine done_ (done_of b0.out (by kernel_rfl)) ?_
       try go_wp2
       go_meet
       case rel => exact ⟨_, (!p0), el, H', ⟨by have := l6.out; have := j5.out; first | omega | exact Nat.le_refl _⟩, ⟨(pV a0.out)⟩, ⟨(pV a2.out)⟩, ⟨(pV a4.out)⟩, ⟨(pV a5.out)⟩, ⟨pk a3.out⟩, ⟨pk a6.out⟩, ⟨pB HB.out⟩⟩
      rw [if_neg n6] at H
      obtain ⟨f8, n7⟩ := qf n6
      (first | rw [f8] | (simp only [i64_w, i32_w]; rw [f8]) | skip)
      have H' := am H
      clear H
      try go_wp2
      replace a0 := am (Kd.V_drew a0.out)
      replace a2 := am (Kd.V_drew a2.out)
      replace a4 := am (Kd.V_drew a4.out)
      replace a5 := am (Kd.V_drew a5.out)
      replace a3 := am (blk_drew a3.out)
      replace a6 := am (blk_drew a6.out)
      replace HB := am (below_drew1 HB.out)
      refine start_ (n := 27) (S := fun w' => True) (ds := []) (ba 27 0) (by kernel_rfl) rfl rfl trivial (fun b4 => ?_); refine with_tabW Fb.tab6 Fb.bits6 (fun b0 g8 => ?_)
      generalize wc.drew = C4 at a0 a2 a4 a5 a3 a6 HB b4 ⊢
      refine pu 0 33 (ba 27 1) b0 ?_
      refine pu 1 34 (ba 27 3) b0 ?_
      refine pu 2 35 (ba 27 7) b0 ?_
      refine pu 3 36 (ba 27 15) b0 ?_
      refine pe 4 37 (ba 27 31) b0 ?_
      refine pe 5 38 (ba 27 63) b0 ?_
      refine pe 6 39 (ba 27 127) b0 ?_
      refine pe 7 40 (ba 27 255) b0 ?_
      refine pe 8 41 (ba 27 511) b0 ?_
      refine pe 9 42 (ba 27 1023) b0 ?_
      refine pe 10 43 (ba 27 2047) b0 ?_
      refine pe 11 44 (ba 27 4095) b0 ?_
      refine pe 12 45 (ba 27 8191) b0 ?_
      refine pe 13 46 (ba 27 16383) b0 ?_
      refine pe 14 47 (ba 27 32767) b0 ?_
      refine pe 15 48 (ba 27 65535) b0 ?_
      refine pu 16 49 (ba 27 131071) b0 ?_
      refine pu 17 50 (ba 27 262143) b0 ?_
      refine pe 18 51 (ba 27 524287) b0 ?_
      refine pe 19 52 (ba 27 1048575) b0 ?_
      refine pe 20 53 (ba 27 2097151) b0 ?_
      refine pe 21 54 (ba 27 4194303) b0 ?_
      refine pe 22 55 (ba 27 8388607) b0 ?_
      refine pe 23 56 (ba 27 16777215) b0 ?_
      refine pe 24 57 (ba 27 33554431) b0 ?_
      refine pe 25 58 (ba 27 67108863) b0 ?_
      refine pu 26 59 (ba 27 134217727) b0 ?_
      refine done_ (done_of b0.out (by kernel_rfl)) ?_
      try go_wp2
      go_meet
      case rel => exact ⟨_, (true), el, H', ⟨by have := l6.out; have := j5.out; first | omega | exact Nat.le_refl _⟩, ⟨(pV a0.out)⟩, ⟨(pV a2.out)⟩, ⟨(pV a4.out)⟩, ⟨(pV a5.out)⟩, ⟨pk a3.out⟩, ⟨pk a6.out⟩, ⟨pB HB.out⟩⟩
     case rest =>
      clear k7
      obtain ⟨kq, f4, rfl, HA, z0, a0, a2, a4, a5, a3, a6, HB⟩ := hcut
      cases kq with
      | zero => exact absurd HA.out (by simp [Fb.j2])
      | succ f1 =>
       have H := HA.out
       clear HA
       simp only [Fb.j2] at H
       by_cases p3 : f4 = true
       ·
        subst p3
        rw [if_pos rfl] at H
        try dsimp only at H
        exact absurd H (by simp)
       replace p3 := Bool.eq_false_iff.mpr p3
       subst p3
       rw [if_neg (show ¬ (false = true) by decide)] at H
       try dsimp only at H
       replace H := Option.bind_eq_some_iff.mp H
       obtain ⟨⟨g1, g2, g3, g4, g5, j9⟩, m1, H⟩ := H
       try dsimp only at H
       have v3 := am m1
       clear m1
       replace H := Option.bind_eq_some_iff.mp H
       obtain ⟨t7, m2, H⟩ := H
       try dsimp only at H
       have v4 := am m2
       clear m2
       by_cases p4 : t7 = true
       ·
        subst p4
        rw [if_pos rfl] at H
        try dsimp only at H
        replace H := Option.bind_eq_some_iff.mp H
        obtain ⟨u1, m3, H⟩ := H
        try dsimp only at H
        have x8 := am m3
        clear m3
        by_cases p5 : u1 = true
        ·
         subst p5
         rw [if_pos rfl] at H
         try dsimp only at H
         replace H := Option.bind_eq_some_iff.mp H
         obtain ⟨u2, m4, H⟩ := H
         try dsimp only at H
         have x9 := am m4
         clear m4
         by_cases p6 : u2 = true
         ·
          subst p6
          rw [if_pos rfl] at H
          try dsimp only at H
          by_cases o1 : j9 = 0
          ·
           rw [if_pos o1] at H
           obtain ⟨o2, o3⟩ := qt o1
           clear o1
           replace H := Option.bind_eq_some_iff.mp H
           obtain ⟨⟨l1, l2, l3, l4, l5⟩, m5, H⟩ := H
           try dsimp only at H
           have y0 := am m5
           clear m5
           replace H := Option.bind_eq_some_iff.mp H
           obtain ⟨u3, m6, H⟩ := H
           try dsimp only at H
           have y6 := am m6
           clear m6
           obtain rfl := Option.some.inj H
           have w4 := nn d9
           have q2 := y5 a3
           try go_wp2_with (first | ((with_reducible refine gC 14 ?_); refine gL 63 Try.func14 #[.agg #[.string b6, .string b7, .slice c8 b5.length c9, .int .i64 c6, .slice d5 b8.length d6], .int .i64 a1] ?_; (with_reducible refine (Gl.calls f1 b6 b7 (fun k_ => (k_ ≠ a7 ∧ k_ ≠ a9)) _ _ b5 c6 (fun k_ => (k_ ≠ a7 ∧ k_ ≠ a9)) _ _ b8 a1 g1 g2 g3 g4 g5 j9 _ ?side1 ?side2 v3.out).mono ?_); (case side1 => exact a0.out); (case side2 => exact a2.out); rintro e C5 ⟨u6, u7, rfl, f2, f3, hb⟩; refine ⟨_, rfl, ?_⟩; replace a0 := vB a0 hb; replace a2 := vB a2 hb; replace a4 := vB a4 hb; replace a5 := vB a5 hb; have b2 := am (Kd.V_lower (Kd.V_mono (ok' := fun k_ => k_ ≠ a7 ∧ k_ ≠ a9) f2 (fun k_ d2 => ⟨Or.elim d2 (fun b1 => Or.elim b1 (fun b1 => b1.1) (fun b1 => b1.1)) (fun b9 => (Kd.freshB (pk a3.out) k_ b9)), Or.elim d2 (fun b1 => Or.elim b1 (fun b1 => b1.2) (fun b1 => b1.2)) (fun b9 => (Kd.freshB (pk a6.out) k_ b9))⟩)) (below_size (pB HB.out))); have b3 := am (Kd.V_lower (Kd.V_mono (ok' := fun k_ => k_ ≠ a7 ∧ k_ ≠ a9) f3 (fun k_ d2 => ⟨Or.elim d2 (fun b1 => Or.elim b1 (fun b1 => b1.1) (fun b1 => b1.1)) (fun b9 => (Kd.freshB (pk a3.out) k_ b9)), Or.elim d2 (fun b1 => Or.elim b1 (fun b1 => b1.2) (fun b1 => b1.2)) (fun b9 => (Kd.freshB (pk a6.out) k_ b9))⟩)) (below_size (pB HB.out))); replace a3 := kB a3 hb; replace a6 := kB a6 hb; replace HB := bS HB hb; (try clear hb); (try clear hb2); (try clear hk); (try clear hi); (try clear f2); (try clear f3)) | ((with_reducible refine gD 8 ?_); (try (refine gate_guard (by rfl) ?_; dsimp only)); refine bz 8 #[.string (⟨#[]⟩ : ByteArray), .string (⟨#[]⟩ : ByteArray), .slice none 0 0, .int .i64 0, .slice none 0 0] 27 HB ?_; clear HB; intro d4 hg C6 hb a8 n0 HB; replace a0 := vE a0 hg hb; replace a2 := vE a2 hg hb; replace a4 := vE a4 hg hb; replace a5 := vE a5 hg hb; replace b2 := vE b2 hg hb; replace b3 := vE b3 hg hb; have h5 := nL hg a3; have e5 := nG hg a3; replace a3 := kB a3 hb; have h7 := nL hg a6; have e6 := nG hg a6; replace a6 := kB a6 hb; clear hb hg; have w5 := nn e5; have w6 := nn e6; have q3 := y5 a8; obtain ⟨k4, k8, t2⟩ := Kd.V_slice b2.out; subst t2; obtain ⟨k5, k9, t3⟩ := Kd.V_slice b3.out; subst t3; have q4 := y5 a3) | ((with_reducible refine gC 15 ?_); refine gL 67 Try.func15 #[.agg #[.string b6, .string b7, .slice c8 b5.length c9, .int .i64 c6, .slice d5 b8.length d6]] ?_; (with_reducible refine (Fa.calls f1 b6 b7 _ _ b5 c6 _ _ b8 true _ ?side1 ?side2 ?side3 ?side4 v4.out).mono ?_); (case side1 => exact (Kd.V_reads' (pV a0.out)).2.2); (case side2 => exact (Kd.V_reads' a0.out).2.1); (case side3 => exact (Kd.V_reads' (pV a2.out)).2.2); (case side4 => exact (Kd.V_reads' a2.out).2.1); rintro e B2 ⟨rfl, hb⟩; refine ⟨_, rfl, ?_⟩; replace a0 := vB a0 hb; replace a2 := vB a2 hb; replace a4 := vB a4 hb; replace a5 := vB a5 hb; replace b2 := vB b2 hb; replace b3 := vB b3 hb; replace a3 := kB a3 hb; replace a6 := kB a6 hb; replace a8 := am (blk_below (g := d4) (o := .cells #[.string g1, .string g2, .slice k4 g3.length k8, .int .i64 g4, .slice k5 g5.length k9] 27 (0, 0)) (pP a8.out) hb); replace HB := bS HB hb; (try clear hb); (try clear hb2); (try clear hk); (try clear hi)))
           replace a0 := am (Kd.V_drew a0.out)
           replace a2 := am (Kd.V_drew a2.out)
           replace a4 := am (Kd.V_drew a4.out)
           replace a5 := am (Kd.V_drew a5.out)
           replace b2 := am (Kd.V_drew b2.out)
           replace b3 := am (Kd.V_drew b3.out)
           replace a3 := am (blk_drew a3.out)
           replace a6 := am (blk_drew a6.out)
           replace a8 := am (blk_drew a8.out)
           replace HB := am (below_drew1 HB.out)
           refine start_ (n := 17) (S := fun w' => w'.cell? ⟨a7, 0, none⟩ = some (.string b6) ∧ w'.cell? ⟨a7, 1, none⟩ = some (.string b7) ∧ w'.cell? ⟨a7, 2, none⟩ = some (.slice c8 b5.length c9) ∧ w'.cell? ⟨a7, 3, none⟩ = some (.int .i64 c6) ∧ w'.cell? ⟨a7, 4, none⟩ = some (.slice d5 b8.length d6) ∧ w'.cell? ⟨d4, 0, none⟩ = some (.string g1) ∧ w'.cell? ⟨d4, 1, none⟩ = some (.string g2) ∧ w'.cell? ⟨d4, 2, none⟩ = some (.slice k4 g3.length k8) ∧ w'.cell? ⟨d4, 3, none⟩ = some (.int .i64 g4) ∧ w'.cell? ⟨d4, 4, none⟩ = some (.slice k5 g5.length k9)) (ds := []) (ba 17 0) (by kernel_rfl) rfl rfl ⟨bc a3.out, bc a3.out, bc a3.out, bc a3.out, bc a3.out, bc a8.out, bc a8.out, bc a8.out, bc a8.out, bc a8.out⟩ (fun b4 => ?_); refine with_tabW Fb.tab11 Fb.bits11 (fun b0 g8 => ?_)
           generalize B2.drew = C7 at a0 a2 a4 a5 b2 b3 a3 a6 a8 HB b4 ⊢
           refine one_ (i := 0) (N := some 84) (ba 17 1) rfl rfl (one_of b0.out (by kernel_rfl)) (by decide) (fun K hK => ?_)
           refine goes_ Try.func16 (by kernel_rfl) rfl #[] (by rfl) rfl rfl (by (try simp only [List.map_toArray, List.map_cons, List.map_nil]); first | done | rfl | (simp only [List.length_drop, List.length_take]; rfl)) ?_
           with_reducible refine (F7.calls f1  true _ x8.out).mono ?_
           rintro e C8 ⟨rfl, hb⟩
           refine ⟨_, rfl, ?_⟩
           replace a0 := vB a0 hb
           replace a2 := vB a2 hb
           replace a4 := vB a4 hb
           replace a5 := vB a5 hb
           replace b2 := vB b2 hb
           replace b3 := vB b3 hb
           replace a3 := kB a3 hb
           replace a6 := kB a6 hb
           replace a8 := kB a8 hb
           replace HB := bS HB hb
           (try clear hb)
           (try clear hb2)
           (try clear hk)
           (try clear hi)
           refine hK.out _ _ ⟨bc a3.out, bc a3.out, bc a3.out, bc a3.out, bc a3.out, bc a8.out, bc a8.out, bc a8.out, bc a8.out, bc a8.out⟩ (fun b4 => ?_)
           clear hK K
           refine nh ?_
           refine pu 1 85 (ba 17 3) b0 ?_
           refine tk 2 86 (ba 17 7) b0 g8 b4 ?_
           refine one_ (i := 3) (N := some 87) (ba 17 15) rfl rfl (one_of b0.out (by kernel_rfl)) (by decide) (fun K hK => ?_)
           refine goes_ Try.func17 (by kernel_rfl) rfl #[.agg #[.string b6, .string b7, .slice c8 b5.length c9, .int .i64 c6, .slice d5 b8.length d6]] (by rfl) rfl rfl (by (try simp only [List.map_toArray, List.map_cons, List.map_nil]); first | done | rfl | (simp only [List.length_drop, List.length_take]; rfl)) ?_
           with_reducible refine (Gg.calls f1 b6 b7 _ _ b5 c6 _ _ b8 true _ ?side1 ?side2 ?side3 ?side4 x9.out).mono ?_
           (case side1 => exact pC ((Kd.V_reads' a0.out).2.2))
           (case side2 => exact (Kd.V_reads' a0.out).2.1)
           (case side3 => exact pC ((Kd.V_reads' a2.out).2.2))
           (case side4 => exact (Kd.V_reads' a2.out).2.1)
           rintro e C9 ⟨rfl, hb⟩
           refine ⟨_, rfl, ?_⟩
           replace a0 := vB a0 hb
           replace a2 := vB a2 hb
           replace a4 := vB a4 hb
           replace a5 := vB a5 hb
           replace b2 := vB b2 hb
           replace b3 := vB b3 hb
           replace a3 := kB a3 hb
           replace a6 := kB a6 hb
           replace a8 := kB a8 hb
           replace HB := bS HB hb
           (try clear hb)
           (try clear hb2)
           (try clear hk)
           (try clear hi)
           refine hK.out _ _ ⟨bc a3.out, bc a3.out, bc a3.out, bc a3.out, bc a3.out, bc a8.out, bc a8.out, bc a8.out, bc a8.out, bc a8.out⟩ (fun b4 => ?_)
           clear hK K
           refine nh ?_
           refine pu 4 88 (ba 17 31) b0 ?_
           refine pu 5 89 (ba 17 63) b0 ?_
           refine pu 6 90 (ba 17 127) b0 ?_
           refine pu 7 91 (ba 17 255) b0 ?_
           refine pu 8 92 (ba 17 511) b0 ?_
           refine pu 9 93 (ba 17 1023) b0 ?_
           refine pu 12 96 (ba 17 5119) b0 ?_
           refine tk 10 94 (ba 17 6143) b0 g8 b4 ?_
           refine tk 11 95 (ba 17 8191) b0 g8 b4 ?_
           refine one_ (i := 13) (N := some 97) (ba 17 16383) rfl rfl (one_of b0.out (by kernel_rfl)) (by decide) (fun K hK => ?_)
           refine goes_ Try.func18 (by kernel_rfl) rfl #[.agg #[.string b6, .string b7, .slice c8 b5.length c9, .int .i64 c6, .slice d5 b8.length d6], .int .i64 a1] (by rfl) rfl rfl (by (try simp only [List.map_toArray, List.map_cons, List.map_nil]); first | done | rfl | (simp only [List.length_drop, List.length_take]; rfl)) ?_
           with_reducible refine (Fk.calls f1 b6 b7 (fun k_ => ((k_ ≠ a7 ∧ k_ ≠ a9) ∧ k_ ≠ d4)) _ _ b5 c6 (fun k_ => ((k_ ≠ a7 ∧ k_ ≠ a9) ∧ k_ ≠ d4)) _ _ b8 a1 l1 l2 l3 l4 l5 _ ?side1 ?side2 y0.out).mono ?_
           (case side1 => exact a0.out)
           (case side2 => exact a2.out)
           rintro e D0 ⟨A8, A9, rfl, f2, f3, hb⟩
           refine ⟨_, rfl, ?_⟩
           replace a0 := vB a0 hb
           replace a2 := vB a2 hb
           replace a4 := vB a4 hb
           replace a5 := vB a5 hb
           replace b2 := vB b2 hb
           replace b3 := vB b3 hb
           have f5 := am (Kd.V_lower (Kd.V_mono (ok' := fun k_ => k_ ≠ a7 ∧ k_ ≠ a9 ∧ k_ ≠ d4) f2 (fun k_ d2 => ⟨Or.elim d2 (fun b1 => Or.elim b1 (fun b1 => b1.1.1) (fun b1 => b1.1.1)) (fun b9 => (Kd.freshB (pk a3.out) k_ b9)), Or.elim d2 (fun b1 => Or.elim b1 (fun b1 => b1.1.2) (fun b1 => b1.1.2)) (fun b9 => (Kd.freshB (pk a6.out) k_ b9)), Or.elim d2 (fun b1 => Or.elim b1 (fun b1 => b1.2) (fun b1 => b1.2)) (fun b9 => (Kd.freshB (pk a8.out) k_ b9))⟩)) (below_size (pB HB.out)))
           have f6 := am (Kd.V_lower (Kd.V_mono (ok' := fun k_ => k_ ≠ a7 ∧ k_ ≠ a9 ∧ k_ ≠ d4) f3 (fun k_ d2 => ⟨Or.elim d2 (fun b1 => Or.elim b1 (fun b1 => b1.1.1) (fun b1 => b1.1.1)) (fun b9 => (Kd.freshB (pk a3.out) k_ b9)), Or.elim d2 (fun b1 => Or.elim b1 (fun b1 => b1.1.2) (fun b1 => b1.1.2)) (fun b9 => (Kd.freshB (pk a6.out) k_ b9)), Or.elim d2 (fun b1 => Or.elim b1 (fun b1 => b1.2) (fun b1 => b1.2)) (fun b9 => (Kd.freshB (pk a8.out) k_ b9))⟩)) (below_size (pB HB.out)))
           replace a3 := kB a3 hb
           replace a6 := kB a6 hb
           replace a8 := kB a8 hb
           replace HB := bS HB hb
           (try clear hb)
           (try clear hb2)
           (try clear hk)
           (try clear hi)
           (try clear f2)
           (try clear f3)
           obtain ⟨r5, s4, o8⟩ := Kd.V_slice f5.out
           (first | subst o8 | (injection o8 with f1_ f2_ f3_; have i7 := f1_.symm; have i8 := f3_.symm; clear f1_ f2_ f3_; subst i7; subst i8))
           obtain ⟨r6, s5, o9⟩ := Kd.V_slice f6.out
           (first | subst o9 | (injection o9 with f1_ f2_ f3_; have i7 := f1_.symm; have i8 := f3_.symm; clear f1_ f2_ f3_; subst i7; subst i8))
           refine hK.out _ _ ⟨bc a3.out, bc a3.out, bc a3.out, bc a3.out, bc a3.out, bc a8.out, bc a8.out, bc a8.out, bc a8.out, bc a8.out⟩ (fun b4 => ?_)
           clear hK K
           refine nh ?_
           refine one_ (i := 14) (N := some 98) (ba 17 32767) rfl rfl (one_of b0.out (by kernel_rfl)) (by decide) (fun K hK => ?_)
           refine goes_ Try.func12 (by kernel_rfl) rfl #[.agg #[.string g1, .string g2, .slice k4 g3.length k8, .int .i64 g4, .slice k5 g5.length k9], .agg #[.string l1, .string l2, .slice r5 l3.length s4, .int .i64 l4, .slice r6 l5.length s5]] (by rfl) rfl rfl (by (try simp only [List.map_toArray, List.map_cons, List.map_nil]); first | done | rfl | (simp only [List.length_drop, List.length_take]; rfl)) ?_
           with_reducible refine (Fv.calls f1 g1 g2 _ _ g3 g4 _ _ g5 l1 l2 _ _ l3 l4 _ _ l5 u3 _ ?side1 ?side2 ?side3 ?side4 ?side5 ?side6 ?side7 ?side8 y6.out).mono ?_
           (case side1 => exact pC ((Kd.V_reads' b2.out).2.2))
           (case side2 => exact (Kd.V_reads' b2.out).2.1)
           (case side3 => exact pC ((Kd.V_reads' b3.out).2.2))
           (case side4 => exact (Kd.V_reads' b3.out).2.1)
           (case side5 => exact pC ((Kd.V_reads' f5.out).2.2))
           (case side6 => exact (Kd.V_reads' f5.out).2.1)
           (case side7 => exact pC ((Kd.V_reads' f6.out).2.2))
           (case side8 => exact (Kd.V_reads' f6.out).2.1)
           rintro e D1 ⟨rfl, hb⟩
           refine ⟨_, rfl, ?_⟩
           replace a0 := vB a0 hb
           replace a2 := vB a2 hb
           replace a4 := vB a4 hb
           replace a5 := vB a5 hb
           replace b2 := vB b2 hb
           replace b3 := vB b3 hb
           replace f5 := vB f5 hb
           replace f6 := vB f6 hb
           replace a3 := kB a3 hb
           replace a6 := kB a6 hb
           replace a8 := kB a8 hb
           replace HB := bS HB hb
           (try clear hb)
           (try clear hb2)
           (try clear hk)
           (try clear hi)
           refine hK.out _ _ ⟨bc a3.out, bc a3.out, bc a3.out, bc a3.out, bc a3.out, bc a8.out, bc a8.out, bc a8.out, bc a8.out, bc a8.out⟩ (fun b4 => ?_)
           clear hK K
           refine nh ?_
           refine pu 15 99 (ba 17 65535) b0 ?_
           refine pu 16 4 (ba 17 131071) b0 ?_
           refine done_ (done_of b0.out (by kernel_rfl)) ?_
           try go_wp2
           go_ret
           exact ⟨er, pB HB.out⟩
          rw [if_neg o1] at H
          obtain ⟨o2, o3⟩ := qf o1
          exact absurd H (by simp)
         replace p6 := Bool.eq_false_iff.mpr p6
         subst p6
         rw [if_neg (show ¬ (false = true) by decide)] at H
         try dsimp only at H
         exact absurd H (by simp)
        replace p5 := Bool.eq_false_iff.mpr p5
        subst p5
        rw [if_neg (show ¬ (false = true) by decide)] at H
        try dsimp only at H
        exact absurd H (by simp)
       replace p4 := Bool.eq_false_iff.mpr p4
       subst p4
       rw [if_neg (show ¬ (false = true) by decide)] at H
       try dsimp only at H
       replace H := Option.bind_eq_some_iff.mp H
       obtain ⟨t8, m7, H⟩ := H
       try dsimp only at H
       have y7 := am m7
       clear m7
       by_cases p7 : t8 = true
       ·
        subst p7
        rw [if_pos rfl] at H
        try dsimp only at H
        replace H := Option.bind_eq_some_iff.mp H
        obtain ⟨t9, m8, H⟩ := H
        try dsimp only at H
        have y8 := am m8
        clear m8
        by_cases p8 : t9 = true
        ·
         subst p8
         rw [if_pos rfl] at H
         try dsimp only at H
         exact absurd H (by simp)
        replace p8 := Bool.eq_false_iff.mpr p8
        subst p8
        rw [if_neg (show ¬ (false = true) by decide)] at H
        try dsimp only at H
        by_cases p9 : j9 = 1
        ·
         rw [if_pos p9] at H
         obtain ⟨v6, v8⟩ := qt p9
         clear p9
         replace H := Option.bind_eq_some_iff.mp H
         obtain ⟨u0, m9, H⟩ := H
         try dsimp only at H
         have y9 := am m9
         clear m9
         obtain rfl := Option.some.inj H
         have w8 := nn d9
         have q5 := y5 a3
         go_wp2_with (first | ((with_reducible refine gC 14 ?_); refine gL 63 Try.func14 #[.agg #[.string b6, .string b7, .slice c8 b5.length c9, .int .i64 c6, .slice d5 b8.length d6], .int .i64 a1] ?_; (with_reducible refine (Gl.calls f1 b6 b7 (fun k_ => (k_ ≠ a7 ∧ k_ ≠ a9)) _ _ b5 c6 (fun k_ => (k_ ≠ a7 ∧ k_ ≠ a9)) _ _ b8 a1 g1 g2 g3 g4 g5 j9 _ ?side1 ?side2 v3.out).mono ?_); (case side1 => exact a0.out); (case side2 => exact a2.out); rintro e D2 ⟨u6, u7, rfl, f2, f3, hb⟩; refine ⟨_, rfl, ?_⟩; replace a0 := vB a0 hb; replace a2 := vB a2 hb; replace a4 := vB a4 hb; replace a5 := vB a5 hb; have b2 := am (Kd.V_lower (Kd.V_mono (ok' := fun k_ => k_ ≠ a7 ∧ k_ ≠ a9) f2 (fun k_ d2 => ⟨Or.elim d2 (fun b1 => Or.elim b1 (fun b1 => b1.1) (fun b1 => b1.1)) (fun b9 => (Kd.freshB (pk a3.out) k_ b9)), Or.elim d2 (fun b1 => Or.elim b1 (fun b1 => b1.2) (fun b1 => b1.2)) (fun b9 => (Kd.freshB (pk a6.out) k_ b9))⟩)) (below_size (pB HB.out))); have b3 := am (Kd.V_lower (Kd.V_mono (ok' := fun k_ => k_ ≠ a7 ∧ k_ ≠ a9) f3 (fun k_ d2 => ⟨Or.elim d2 (fun b1 => Or.elim b1 (fun b1 => b1.1) (fun b1 => b1.1)) (fun b9 => (Kd.freshB (pk a3.out) k_ b9)), Or.elim d2 (fun b1 => Or.elim b1 (fun b1 => b1.2) (fun b1 => b1.2)) (fun b9 => (Kd.freshB (pk a6.out) k_ b9))⟩)) (below_size (pB HB.out))); replace a3 := kB a3 hb; replace a6 := kB a6 hb; replace HB := bS HB hb; (try clear hb); (try clear hb2); (try clear hk); (try clear hi); (try clear f2); (try clear f3)) | ((with_reducible refine gD 8 ?_); (try (refine gate_guard (by rfl) ?_; dsimp only)); refine bz 8 #[.string (⟨#[]⟩ : ByteArray), .string (⟨#[]⟩ : ByteArray), .slice none 0 0, .int .i64 0, .slice none 0 0] 27 HB ?_; clear HB; intro d4 hg D3 hb a8 n0 HB; replace a0 := vE a0 hg hb; replace a2 := vE a2 hg hb; replace a4 := vE a4 hg hb; replace a5 := vE a5 hg hb; replace b2 := vE b2 hg hb; replace b3 := vE b3 hg hb; have h5 := nL hg a3; have e5 := nG hg a3; replace a3 := kB a3 hb; have h7 := nL hg a6; have e6 := nG hg a6; replace a6 := kB a6 hb; clear hb hg; have x0 := nn e5; have x2 := nn e6; have q6 := y5 a8; obtain ⟨r7, s6, t4⟩ := Kd.V_slice b2.out; subst t4; obtain ⟨r8, s7, t5⟩ := Kd.V_slice b3.out; subst t5; have q7 := y5 a3) | ((with_reducible refine gC 15 ?_); refine gL 67 Try.func15 #[.agg #[.string b6, .string b7, .slice c8 b5.length c9, .int .i64 c6, .slice d5 b8.length d6]] ?_; (with_reducible refine (Fa.calls f1 b6 b7 _ _ b5 c6 _ _ b8 false _ ?side1 ?side2 ?side3 ?side4 v4.out).mono ?_); (case side1 => exact (Kd.V_reads' (pV a0.out)).2.2); (case side2 => exact (Kd.V_reads' a0.out).2.1); (case side3 => exact (Kd.V_reads' (pV a2.out)).2.2); (case side4 => exact (Kd.V_reads' a2.out).2.1); rintro e D4 ⟨rfl, hb⟩; refine ⟨_, rfl, ?_⟩; replace a0 := vB a0 hb; replace a2 := vB a2 hb; replace a4 := vB a4 hb; replace a5 := vB a5 hb; replace b2 := vB b2 hb; replace b3 := vB b3 hb; replace a3 := kB a3 hb; replace a6 := kB a6 hb; replace a8 := am (blk_below (g := d4) (o := .cells #[.string g1, .string g2, .slice r7 g3.length s6, .int .i64 g4, .slice r8 g5.length s7] 27 (0, 0)) (pP a8.out) hb); replace HB := bS HB hb; (try clear hb); (try clear hb2); (try clear hk); (try clear hi)) | ((with_reducible refine gC 16 ?_); refine gL 69 Try.func16 #[] ?_; (with_reducible refine (F7.calls f1  true _ y7.out).mono ?_); rintro e D5 ⟨rfl, hb⟩; refine ⟨_, rfl, ?_⟩; replace a0 := vB a0 hb; replace a2 := vB a2 hb; replace a4 := vB a4 hb; replace a5 := vB a5 hb; replace b2 := vB b2 hb; replace b3 := vB b3 hb; replace a3 := kB a3 hb; replace a6 := kB a6 hb; replace a8 := kB a8 hb; replace HB := bS HB hb; (try clear hb); (try clear hb2); (try clear hk); (try clear hi); have q8 := y5 a3) | (go_at_call 17; (with_reducible refine (Gg.calls f1 b6 b7 _ _ b5 c6 _ _ b8 false _ ?side1 ?side2 ?side3 ?side4 y8.out).mono ?_); (case side1 => exact pC ((Kd.V_reads' a0.out).2.2)); (case side2 => exact (Kd.V_reads' a0.out).2.1); (case side3 => exact pC ((Kd.V_reads' a2.out).2.2)); (case side4 => exact (Kd.V_reads' a2.out).2.1); rintro e D6 ⟨rfl, hb⟩; replace a0 := vB a0 hb; replace a2 := vB a2 hb; replace a4 := vB a4 hb; replace a5 := vB a5 hb; replace b2 := vB b2 hb; replace b3 := vB b3 hb; replace a3 := kB a3 hb; replace a6 := kB a6 hb; replace a8 := kB a8 hb; replace HB := bS HB hb; (try clear hb); (try clear hb2); (try clear hk); (try clear hi); have q9 := y5 a8) | (go_at_call 12; (refine (Fv.calls f1 g1 g2 _ _ g3 g4 _ _ g5 (⟨#[]⟩ : ByteArray) (⟨#[]⟩ : ByteArray) _ _ ([] : List (S49)) 0 _ _ ([] : List (S51)) u0 _ ?side1 ?side2 ?side3 ?side4 ?side5 ?side6 ?side7 ?side8 y9.out).mono ?_); (case side1 => exact pC ((Kd.V_reads' b2.out).2.2)); (case side2 => exact (Kd.V_reads' b2.out).2.1); (case side3 => exact pC ((Kd.V_reads' b3.out).2.2)); (case side4 => exact (Kd.V_reads' b3.out).2.1); (case side5 => exact Kd.C_nil _ _); (case side6 => exact Nat.le_refl _); (case side7 => exact Kd.C_nil _ _); (case side8 => exact Nat.le_refl _); rintro e B1 ⟨rfl, hb⟩; replace a0 := vB a0 hb; replace a2 := vB a2 hb; replace a4 := vB a4 hb; replace a5 := vB a5 hb; replace b2 := vB b2 hb; replace b3 := vB b3 hb; replace a3 := kB a3 hb; replace a6 := kB a6 hb; replace a8 := kB a8 hb; replace HB := bS HB hb; (try clear hb); (try clear hb2); (try clear hk); (try clear hi)))
         go_ret
         exact ⟨er, pB HB.out⟩
        rw [if_neg p9] at H
        exact absurd H (by simp)
       replace p7 := Bool.eq_false_iff.mpr p7
       subst p7
       rw [if_neg (show ¬ (false = true) by decide)] at H
       try dsimp only at H
       exact absurd H (by simp)
end Go.Proofs.Ytabmkighhmchmaa.X
namespace Go.Proofs.Ytabmkighhmchmaa.X
open Go.RowKit Go.Proofs.YtabmkighhmchmaaW.PrintWords
def Fb.Pure : Prop := ∀ (x0 : S27) (a1 : Int), (x0.f0.size ≤ maxLen ∧ ((x0.f1.f0.size ≤ maxLen ∧ (x0.f1.f1.length ≤ maxLen ∧ ∀ a_ ∈ x0.f1.f1, ((a_.f0.length ≤ maxLen ∧ ∀ b_ ∈ a_.f0, (Lit.int .i64 b_).wf = true) ∧ (Lit.int .i64 a_.f1).wf = true ∧ (Lit.int .i64 a_.f2).wf = true ∧ (Lit.int .i64 a_.f3).wf = true)))) ∧ (Lit.int .i64 x0.f2).wf = true ∧ (x0.f3.length ≤ maxLen ∧ ∀ a_ ∈ x0.f3, ((Lit.int .i64 a_.f0).wf = true ∧ (Lit.int .i64 a_.f1).wf = true ∧ (Lit.int .i64 a_.f2).wf = true ∧ (Lit.int .i64 a_.f3).wf = true ∧ a_.f4.size ≤ maxLen))) → (Lit.int .i64 a1).wf = true → ∃ k, Fb.f k x0.f0 x0.f1.f0 x0.f1.f1 x0.f2 x0.f3 a1 = some true
end Go.Proofs.Ytabmkighhmchmaa.X
namespace Go.Proofs.Ytabmkighhmchmaa.Pure
open Go.RowKit Go.Proofs.Ytabmkighhmchmaa.X Go.Proofs.YtabmkighhmchmaaW.PrintWords Go.Proofs.YtabmkighhmchmaaW.PrintLast
theorem rd51_nat (xs : List S51) (i : Nat) (h : i < xs.length) : rd_T51 xs (i : Int) = xs[i] := by
 simp [rd_T51, List.getD_eq_getElem?_getD, List.getElem?_eq_getElem h]
theorem rd49_nat (ts : List S49) (i : Nat) (h : i < ts.length) : rd_T49 ts (i : Int) = ts[i] := by
 simp [rd_T49, List.getD_eq_getElem?_getD, List.getElem?_eq_getElem h]
theorem wrap_nat (i : Nat) (h : i ≤ 1000000) : wrap64 ((i : Int) + 1) = ((i + 1 : Nat) : Int) := by unfold wrap64; omega
def hasB (c : Int) (xs : List S51) : Bool := xs.any fun s => decide (s.f0 = c)
theorem has_l0 (c : Int) (xs : List S51) (hl : xs.length ≤ 1000) : ∀ m i k : Nat, i + m = xs.length → m < k → Fi.l0 k c xs (xs.length : Int) (i : Int) = some (hasB c (xs.drop i)) := by
 intro m
 induction m with
 | zero =>
  intro i k hi hk
  obtain ⟨k, rfl⟩ : ∃ q, k = q + 1 := ⟨k - 1, by omega⟩
  rw [Fi.l0, if_neg (by omega), List.drop_eq_nil_of_le (by omega)]
  rfl
 | succ m ih =>
  intro i k hi hk
  obtain ⟨k, rfl⟩ : ∃ q, k = q + 1 := ⟨k - 1, by omega⟩
  rw [Fi.l0, if_pos (by omega), if_pos (by omega), if_pos (by omega), rd51_nat xs i (by omega), List.drop_eq_getElem_cons (show i < xs.length by omega)]
  unfold hasB
  rw [List.any_cons]
  by_cases h : xs[i].f0 = c
  ·
   rw [if_pos h, decide_eq_true h, Bool.true_or]
  rw [if_neg h, decide_eq_false h, Bool.false_or, wrap_nat i (by omega), ih (i + 1) k (by omega) (by omega)]
  rfl
theorem has_f (k : Nat) (ky nm : ByteArray) (ts : List S49) (is : Int) (xs : List S51) (c : Int) (hl : xs.length ≤ 1000) (hk : xs.length < k) : Fi.f k ky nm ts is xs c = some (hasB c xs) := by
 have h := has_l0 c xs hl xs.length 0 k (by omega) hk
 rw [List.drop_zero] at h
 exact h
theorem with_l0 (a0 : Nat) (s : S51) (ky nm : ByteArray) (ts : List S49) (is : Int) (xs : List S51) (hl : xs.length ≤ 1000) : ∀ (m i k : Nat) (a1 : List S51), i + m = xs.length → m < k → a1.length = i →
  Fr.l0 k (a0 : Int) xs (xs.length : Int) (i : Int) s.f0 s.f1 s.f2 s.f3 s.f4 ky nm ts is a1 = some (ky, nm, ts, is, a1 ++ (xs.set a0 s).drop i) := by
 intro m
 induction m with
 | zero =>
  intro i k a1 hi hk ha
  obtain ⟨k, rfl⟩ : ∃ q, k = q + 1 := ⟨k - 1, by omega⟩
  rw [Fr.l0, if_neg (by omega), List.drop_eq_nil_of_le (by rw [List.length_set]; omega), List.append_nil]
 | succ m ih =>
  intro i k a1 hi hk ha
  obtain ⟨k, rfl⟩ : ∃ q, k = q + 1 := ⟨k - 1, by omega⟩
  have hd : (xs.set a0 s).drop i = (if a0 = i then s else xs[i]) :: (xs.set a0 s).drop (i + 1) := by
   rw [List.drop_eq_getElem_cons (show i < (xs.set a0 s).length by rw [List.length_set]; omega), List.getElem_set]
  rw [Fr.l0, if_pos (by omega), if_pos (by omega), if_pos (by omega), rd51_nat xs i (by omega), wrap_nat i (by omega), hd]
  by_cases h : a0 = i
  ·
   rw [if_pos (by omega), if_pos (by omega), ih (i + 1) k _ (by omega) (by omega) (by simp; omega), if_pos h]
   simp
  rw [if_neg (by omega), if_pos (by omega), ih (i + 1) k _ (by omega) (by omega) (by simp; omega), if_neg h]
  simp
theorem with_f (k : Nat) (ky nm : ByteArray) (ts : List S49) (is : Int) (xs : List S51) (a0 : Nat) (s : S51) (hl : xs.length ≤ 1000) (hk : xs.length < k) :
  Fr.f k ky nm ts is xs (a0 : Int) s.f0 s.f1 s.f2 s.f3 s.f4 = some (ky, nm, ts, is, xs.set a0 s) := by
 have h := with_l0 a0 s ky nm ts is xs hl xs.length 0 k [] (by omega) hk rfl
 simpa [Fr.f] using h
def readyB (ts : List S49) (xs : List S51) (i : Nat) : Bool := (rd_T49 ts (i : Int)).f0.all fun x => decide ((rd_T51 xs x).f0 = 3)
def Wf (ts : List S49) (n : Nat) : Prop := ts.length = n ∧ n ≤ 10 ∧ ∀ i : Nat, i < n → (rd_T49 ts (i : Int)).f0.length ≤ 10 ∧ ∀ x ∈ (rd_T49 ts (i : Int)).f0, 0 ≤ x ∧ x < (n : Int)
theorem rdI_nat (l : List Int) (i : Nat) (h : i < l.length) : rd l (i : Int) = l[i] := by simp [rd, List.getD_eq_getElem?_getD, List.getElem?_eq_getElem h]
theorem isready_l0 (l : List Int) (ky nm : ByteArray) (ts : List S49) (is : Int) (xs : List S51) (hl : l.length ≤ 1000) (hx : ∀ x ∈ l, 0 ≤ x ∧ x < (xs.length : Int)) : ∀ m i k : Nat, i + m = l.length → m < k →
  Fo.l0 k l (l.length : Int) (i : Int) ky nm ts is xs = some ((l.drop i).all fun x => decide ((rd_T51 xs x).f0 = 3)) := by
 intro m
 induction m with
 | zero =>
  intro i k hi hk
  obtain ⟨k, rfl⟩ : ∃ q, k = q + 1 := ⟨k - 1, by omega⟩
  rw [Fo.l0, if_neg (by omega), List.drop_eq_nil_of_le (by omega)]
  rfl
 | succ m ih =>
  intro i k hi hk
  obtain ⟨k, rfl⟩ : ∃ q, k = q + 1 := ⟨k - 1, by omega⟩
  have hb := hx l[i] (List.getElem_mem _)
  rw [Fo.l0, if_pos (by omega), if_pos (by omega), if_pos (by omega), rdI_nat l i (by omega), if_pos hb.1, if_pos hb.2, List.drop_eq_getElem_cons (show i < l.length by omega), List.all_cons]
  by_cases h : (rd_T51 xs l[i]).f0 = 3
  ·
   rw [if_pos h, decide_eq_true h, Bool.true_and, wrap_nat i (by omega), ih (i + 1) k (by omega) (by omega)]
  rw [if_neg h, decide_eq_false h, Bool.false_and]
theorem isready_f (k : Nat) (ky nm : ByteArray) (ts : List S49) (is : Int) (xs : List S51) (h : Wf ts xs.length) (i : Nat) (hi : i < xs.length) (hk : 20 ≤ k) : Fo.f k ky nm ts is xs (i : Int) = some (readyB ts xs i) := by
 obtain ⟨h1, h2, h3⟩ := h
 obtain ⟨h4, h5⟩ := h3 i hi
 unfold Fo.f
 rw [if_pos (by omega), if_pos (by omega)]
 have h6 := isready_l0 (rd_T49 ts (i : Int)).f0 ky nm ts is xs (by omega) h5 (rd_T49 ts (i : Int)).f0.length 0 k (by omega) (by omega)
 rw [List.drop_zero] at h6
 exact h6
theorem anyO_open (xs : List S51) : ∀ l : List Int, (∀ x ∈ l, 0 ≤ x ∧ x < (xs.length : Int)) → anyO (openO xs) l = some (!(l.all fun x => decide ((rd_T51 xs x).f0 = 3)))
 | [], _ => rfl
 | x :: l, h => by
  have hb := h x (List.mem_cons_self ..)
  rw [anyO, openO, if_pos hb, Option.bind_some, List.all_cons, anyO_open xs l (fun y hy => h y (List.mem_cons_of_mem _ hy))]
  by_cases e : (rd_T51 xs x).f0 = 3
  ·
   rw [decide_eq_true e, Bool.true_and, if_neg (by simp [e])]
  rw [decide_eq_false e, Bool.false_and, if_pos (by simpa using e)]
  rfl
theorem ready_o (ts : List S49) (xs : List S51) (h : Wf ts xs.length) (i : Nat) (hi : i < xs.length) : readyO ts xs (i : Int) = some (readyB ts xs i) := by
 obtain ⟨h1, h2, h3⟩ := h
 obtain ⟨h4, h5⟩ := h3 i hi
 unfold readyO
 rw [if_pos ⟨by omega, by omega⟩]
 unfold anyF
 rw [if_pos (by omega), anyO_open xs _ h5, Option.bind_some, Bool.not_not]
 rfl
def readyTo (ts : List S49) (xs : List S51) : Nat → List S51
 | 0 => xs
 | q + 1 => if readyB ts (readyTo ts xs q) q = true then (readyTo ts xs q).set q (readyS (rd_T51 xs (q : Int))) else readyTo ts xs q
theorem readyTo_len (ts : List S49) (xs : List S51) : ∀ q, (readyTo ts xs q).length = xs.length
 | 0 => rfl
 | q + 1 => by rw [readyTo]; split <;> simp [readyTo_len ts xs q]
theorem readyTo_at (ts : List S49) (xs : List S51) : ∀ (q j : Nat), q ≤ j → rd_T51 (readyTo ts xs q) (j : Int) = rd_T51 xs (j : Int)
 | 0, _, _ => rfl
 | q + 1, j, h => by
  have ih := readyTo_at ts xs q j (by omega)
  rw [readyTo]
  split
  ·
   rw [← ih]
   unfold rd_T51
   simp only [Int.toNat_natCast, List.getD_eq_getElem?_getD]
   rw [List.getElem?_set_ne (by omega)]
  exact ih
def allB (c : Int) (xs : List S51) : Bool := xs.all fun s => decide (s.f0 = c)
def mendP (ts : List S49) (is : Int) (xs : List S51) : Int × List S51 :=
 if hasB 4 xs = true then (2, xs.map cancelS) else (if allB 3 (readyTo ts xs xs.length) = true then 1 else is, readyTo ts xs xs.length)
theorem upto_snd (xs : List S51) : ∀ n, n ≤ xs.length → (upto xs n).map (·.2) = xs.take n
 | 0, _ => by simp [upto]
 | n + 1, h => by rw [upto_succ, List.map_append, upto_snd xs n (by omega), List.take_succ_eq_append_getElem (by omega)]; simp [rd51_nat xs n (by omega)]
theorem cnt_eq (ks : List Int) (xs : List S51) : cntI ks (upto xs xs.length) = ((xs.filter fun s => ks.contains s.f0).length : Int) := by
 unfold cntI
 rw [← List.length_map (f := (·.2)) , show (List.filter (fun x : Nat × S51 => ks.contains x.2.f0) (upto xs xs.length)).map (·.2) = List.filter (fun s : S51 => ks.contains s.f0) ((upto xs xs.length).map (·.2)) by rw [List.filter_map]; rfl, upto_snd xs _ (Nat.le_refl _), List.take_length]
theorem cnt_pos (c : Int) (xs : List S51) : 0 < cntI [c] (upto xs xs.length) ↔ hasB c xs = true := by
 rw [cnt_eq]
 unfold hasB
 rw [List.any_eq_true]
 constructor
 ·
  intro h
  obtain ⟨s, hs⟩ := List.exists_mem_of_length_pos (l := xs.filter fun s => [c].contains s.f0) (by omega)
  rw [List.mem_filter] at hs
  exact ⟨s, hs.1, by simpa using hs.2⟩
 rintro ⟨s, hs, h⟩
 have : s ∈ xs.filter fun s => [c].contains s.f0 := List.mem_filter.2 ⟨hs, by simpa using h⟩
 have := List.length_pos_of_mem this
 omega
theorem cnt_all (c : Int) (xs : List S51) : cntI [c] (upto xs xs.length) = (xs.length : Int) ↔ allB c xs = true := by
 rw [cnt_eq]
 unfold allB
 rw [List.all_eq_true]
 constructor
 ·
  intro h s hs
  have h2 : (xs.filter fun s => [c].contains s.f0).length = xs.length := by omega
  rw [List.length_filter_eq_length_iff] at h2
  simpa using h2 s hs
 intro h
 have h2 : (xs.filter fun s => [c].contains s.f0).length = xs.length := List.length_filter_eq_length_iff.2 (fun s hs => by simpa using h s hs)
 omega
theorem mendTo_eq (ts : List S49) (xs : List S51) (h : Wf ts xs.length) : ∀ q, q ≤ xs.length → mendTo ts xs q = some (readyTo ts xs q)
 | 0, _ => rfl
 | q + 1, hq => by
  rw [mendTo, mendTo_eq ts xs h q (by omega), Option.bind_some, ready_o ts (readyTo ts xs q) (by rw [readyTo_len]; exact h) q (by rw [readyTo_len]; omega), Option.bind_some, readyTo, readyTo_at ts xs q q (Nat.le_refl _)]
theorem mend_f (ts : List S49) (is : Int) (xs : List S51) (h : Wf ts xs.length) : mendF ts is xs = some (mendP ts is xs) := by
 unfold mendF mendP
 rw [if_pos (by have := h.2.1; omega)]
 by_cases h4 : hasB 4 xs = true
 ·
  rw [if_pos ((cnt_pos 4 xs).2 h4), if_pos h4]
 rw [if_neg (fun h' => h4 ((cnt_pos 4 xs).1 h')), if_neg h4, mendTo_eq ts xs h _ (Nat.le_refl _), Option.bind_some]
 by_cases h3 : allB 3 (readyTo ts xs xs.length) = true
 ·
  rw [if_pos ((cnt_all 3 _).2 h3), if_pos h3]
 rw [if_neg (fun h' => h3 ((cnt_all 3 _).1 h')), if_neg h3]
theorem ref_cancelS (s : S51) : Ga.f s.f0 s.f1 s.f2 s.f3 s.f4 = some ((cancelS s).f0, (cancelS s).f1, (cancelS s).f2, (cancelS s).f3, (cancelS s).f4) := by
 unfold Ga.f cancelS
 by_cases h0 : s.f0 = 0
 ·
  rw [if_pos h0, if_pos (Or.inl h0)]
 rw [if_neg h0]
 by_cases h1 : s.f0 = 1
 ·
  rw [if_pos h1, if_pos (Or.inr (Or.inl h1))]
 rw [if_neg h1]
 by_cases h2 : s.f0 = 2
 ·
  rw [if_pos h2, if_pos (Or.inr (Or.inr h2))]
 rw [if_neg h2, if_neg (by simp [h0, h1, h2])]
theorem ref_readyS (s : S51) : Gd.f s.f0 s.f1 s.f2 s.f3 s.f4 = some ((readyS s).f0, (readyS s).f1, (readyS s).f2, (readyS s).f3, (readyS s).f4) := by
 unfold Gd.f readyS
 by_cases h0 : s.f0 = 0
 ·
  rw [if_pos h0, if_pos h0]
 rw [if_neg h0, if_neg h0]
theorem mend_l0 (ky nm : ByteArray) (ts : List S49) (is : Int) (xs : List S51) (hl : xs.length ≤ 100) : ∀ m i k : Nat, i + m = xs.length → xs.length + m < k →
  Fg.l0 k xs (xs.length : Int) (i : Int) ky nm ts is (mapTo i xs) = some (ky, nm, ts, 2, xs.map cancelS) := by
 intro m
 induction m with
 | zero =>
  intro i k hi hk
  obtain ⟨k, rfl⟩ : ∃ q, k = q + 1 := ⟨k - 1, by omega⟩
  obtain rfl : i = xs.length := by omega
  rw [Fg.l0, if_neg (by omega), mapTo_all]
 | succ m ih =>
  intro i k hi hk
  obtain ⟨k, rfl⟩ : ∃ q, k = q + 1 := ⟨k - 1, by omega⟩
  have a0 := mapTo_len i xs (by omega)
  rw [Fg.l0, if_pos (by omega), if_pos (by omega), if_pos (by omega), rd51_nat xs i (by omega), ref_cancelS, Option.bind_some]
  dsimp only
  rw [with_f k ky nm ts is (mapTo i xs) i (cancelS xs[i]) (by omega) (by omega), Option.bind_some]
  dsimp only
  rw [mapTo_set i xs (by omega), wrap_nat i (by omega), ih (i + 1) k (by omega) (by omega)]
theorem mend_l2 (ky nm : ByteArray) (ts : List S49) (is : Int) (xs : List S51) (hl : xs.length ≤ 100) : ∀ (m i k : Nat) (b : Bool), i + m = xs.length → m < k →
  Fg.l2 k b xs (xs.length : Int) (i : Int) ky nm ts is xs = some (ky, nm, ts, if (b && allB 3 (xs.drop i)) = true then 1 else is, xs) := by
 intro m
 induction m with
 | zero =>
  intro i k b hi hk
  obtain ⟨k, rfl⟩ : ∃ q, k = q + 1 := ⟨k - 1, by omega⟩
  rw [Fg.l2, if_neg (by omega), List.drop_eq_nil_of_le (by omega)]
  cases b <;> rfl
 | succ m ih =>
  intro i k b hi hk
  obtain ⟨k, rfl⟩ : ∃ q, k = q + 1 := ⟨k - 1, by omega⟩
  rw [Fg.l2, if_pos (by omega), if_pos (by omega), if_pos (by omega), wrap_nat i (by omega), List.drop_eq_getElem_cons (show i < xs.length by omega)]
  unfold allB
  rw [List.all_cons]
  cases b
  ·
   rw [if_neg (by decide), ih (i + 1) k false (by omega) (by omega)]
   simp
  rw [if_pos rfl, ih (i + 1) k _ (by omega) (by omega), rd51_nat xs i (by omega), Bool.true_and]
  rfl
theorem mend_l1 (ky nm : ByteArray) (ts : List S49) (is : Int) (xs : List S51) (h : Wf ts xs.length) : ∀ m i k : Nat, i + m = xs.length → xs.length + m + 30 < k →
  Fg.l1 k xs (xs.length : Int) (i : Int) ky nm ts is (readyTo ts xs i) = some (ky, nm, ts, if allB 3 (readyTo ts xs xs.length) = true then 1 else is, readyTo ts xs xs.length) := by
 have hl := h.2.1
 intro m
 induction m with
 | zero =>
  intro i k hi hk
  obtain ⟨k, rfl⟩ : ∃ q, k = q + 1 := ⟨k - 1, by omega⟩
  obtain rfl : i = xs.length := by omega
  have a1 := readyTo_len ts xs xs.length
  rw [Fg.l1, if_neg (by omega)]
  have h2 := mend_l2 ky nm ts is (readyTo ts xs xs.length) (by omega) xs.length 0 k true (by omega) (by omega)
  rw [List.drop_zero, Bool.true_and] at h2
  exact h2
 | succ m ih =>
  intro i k hi hk
  obtain ⟨k, rfl⟩ : ∃ q, k = q + 1 := ⟨k - 1, by omega⟩
  have a1 := readyTo_len ts xs i
  rw [Fg.l1, if_pos (by omega), if_pos (by omega), if_pos (by omega), isready_f k ky nm ts is (readyTo ts xs i) (by rw [a1]; exact h) i (by omega) (by omega), Option.bind_some, wrap_nat i (by omega)]
  have a0 := ih (i + 1) k (by omega) (by omega)
  rw [readyTo] at a0
  by_cases hr : readyB ts (readyTo ts xs i) i = true
  ·
   rw [if_pos hr] at a0 ⊢
   rw [ref_readyS, Option.bind_some]
   dsimp only
   rw [with_f k ky nm ts is (readyTo ts xs i) i (readyS (rd_T51 xs (i : Int))) (by omega) (by omega), Option.bind_some]
   exact a0
  rw [if_neg hr] at a0 ⊢
  exact a0
theorem ref_mend_f (k : Nat) (ky nm : ByteArray) (ts : List S49) (is : Int) (xs : List S51) (h : Wf ts xs.length) (hk : 60 ≤ k) :
  Fg.f k ky nm ts is xs = some (ky, nm, ts, (mendP ts is xs).1, (mendP ts is xs).2) := by
 have hl := h.2.1
 unfold Fg.f mendP
 rw [has_f k ky nm ts is xs 4 (by omega) (by omega), Option.bind_some]
 by_cases h4 : hasB 4 xs = true
 ·
  rw [if_pos h4, if_pos h4]
  have h2 := mend_l0 ky nm ts is xs (by omega) xs.length 0 k (by omega) (by omega)
  rw [mapTo_zero] at h2
  exact h2
 rw [if_neg h4, if_neg h4]
 exact mend_l1 ky nm ts is xs h xs.length 0 k (by omega) (by omega)
end Go.Proofs.Ytabmkighhmchmaa.Pure
namespace Go.Proofs.Ytabmkighhmchmaa.X
open Go.RowKit Go.Proofs.YtabmkighhmchmaaW.PrintWords Go.Proofs.YtabmkighhmchmaaW.PrintLast Go.Proofs.YtabmkighhmchmaaW.PrintMore Go.Proofs.YtabmkighhmchmaaW.Sq
attribute [local go_sem] max2_int min2_int max_two min_two max_three min_three max_four min_four
set_option linter.unusedVariables false
set_option linter.unusedSimpArgs false
set_option linter.unusedSimpArgs false
set_option linter.unusedSimpArgs false
end Go.Proofs.Ytabmkighhmchmaa.X
namespace Go.Proofs.Ytabmkighhmchmaa.Pure
open Go.RowKit Go.Proofs.Ytabmkighhmchmaa.X Go.Proofs.YtabmkighhmchmaaW.PrintWords Go.Proofs.YtabmkighhmchmaaW.PrintLast
def aft (w n : Int) : Int := if w < 1 ∨ n < 1 then 0 else min (w * 2 ^ (n - 1).toNat) 1048576
theorem pow_pos' (n : Nat) : (1 : Int) ≤ 2 ^ n := by
 induction n with
 | zero => simp
 | succ n ih => rw [Int.pow_succ]; omega
theorem mul_ge {x : Int} {n : Nat} (h : 0 ≤ x) : x ≤ x * 2 ^ n := by
 have h1 := pow_pos' n
 have h2 := Int.mul_le_mul_of_nonneg_left h1 h
 omega
theorem mul_step (x : Int) (n : Nat) : x * 2 ^ (n + 1) = 2 * x * 2 ^ n := by
 rw [Int.pow_succ, Int.mul_comm 2 x, Int.mul_assoc, Int.mul_comm (2 ^ n) 2]
theorem min_step {x : Int} {n : Nat} (h : 0 ≤ x) : min (min x 1048576 * 2 ^ n) 1048576 = min (x * 2 ^ n) 1048576 := by
 by_cases hx : x ≤ 1048576
 ·
  rw [Int.min_eq_left (a := x) (b := 1048576) hx]
 rw [Int.min_eq_right (a := x) (b := 1048576) (by omega)]
 have h1 := mul_ge (x := 1048576) (n := n) (by omega)
 have h2 := mul_ge (x := x) (n := n) h
 omega
theorem after_l0 (e : Nat) : ∀ (k : Nat) (x0 x1 : Int), 1 ≤ x0 → x0 ≤ 1048576 → -9223372036854775808 ≤ x1 - 1 → x1 ≤ 9223372036854775807 → 1048576 ≤ x0 * 2 ^ e → e < k →
  F0.l0 k x0 x1 = some (min (x0 * 2 ^ (x1 - 1).toNat) 1048576) := by
 induction e with
 | zero =>
  intro k x0 x1 h0 h1 h2 h3 he hk
  obtain ⟨k, rfl⟩ : ∃ m, k = m + 1 := ⟨k - 1, by omega⟩
  have hx : x0 = 1048576 := by simp at he; omega
  have hg := mul_ge (x := x0) (n := (x1 - 1).toNat) (by omega)
  simp only [F0.l0]
  have hm : mn x0 1048576 = min (x0 * 2 ^ (x1 - 1).toNat) 1048576 := by unfold mn; split <;> omega
  by_cases hc : x1 > 1
  ·
   rw [if_pos hc, if_neg (by omega), hm]
  rw [if_neg hc, hm]
 | succ e ih =>
  intro k x0 x1 h0 h1 h2 h3 he hk
  obtain ⟨k, rfl⟩ : ∃ m, k = m + 1 := ⟨k - 1, by omega⟩
  simp only [F0.l0]
  by_cases hc : x1 > 1
  ·
   rw [if_pos hc]
   by_cases hd : x0 < 1048576
   ·
    rw [if_pos hd]
    have e1 : wrap64 (x0 * 2) = 2 * x0 := by unfold wrap64; omega
    have e2 : wrap64 (x1 - 1) = x1 - 1 := by unfold wrap64; omega
    have e3 : (x1 - 1).toNat = (x1 - 1 - 1).toNat + 1 := by omega
    rw [e1, e2, e3, mul_step]
    by_cases hs : 2 * x0 ≤ 1048576
    ·
     exact ih k (2 * x0) (x1 - 1) (by omega) hs (by omega) (by omega) (by rw [← mul_step]; exact he) (by omega)
    have hg := mul_ge (x := 2 * x0) (n := (x1 - 1 - 1).toNat) (by omega)
    obtain ⟨k, rfl⟩ : ∃ m, k = m + 1 := ⟨k - 1, by omega⟩
    simp only [F0.l0]
    have hm : mn (2 * x0) 1048576 = min (2 * x0 * 2 ^ (x1 - 1 - 1).toNat) 1048576 := by unfold mn; split <;> omega
    by_cases a0 : x1 - 1 > 1
    ·
     rw [if_pos a0, if_neg (by omega), hm]
    rw [if_neg a0, hm]
   rw [if_neg hd]
   have hg := mul_ge (x := x0) (n := (x1 - 1).toNat) (by omega)
   congr 1
   unfold mn; split <;> omega
  rw [if_neg hc]
  have e3 : (x1 - 1).toNat = 0 := by omega
  rw [e3]
  congr 1
  simp
  unfold mn; split <;> omega
theorem after_f (k : Nat) (w n : Int) (hn : -9223372036854775808 ≤ n) (a1 : n ≤ 9223372036854775807) (hk : 24 ≤ k) : F0.f k w n = some (aft w n) := by
 obtain ⟨k, rfl⟩ : ∃ m, k = m + 1 := ⟨k - 1, by omega⟩
 unfold F0.f aft
 by_cases hw : w < 1
 ·
  rw [if_pos hw, if_pos (.inl hw)]; simp [F0.j0]
 rw [if_neg hw]
 by_cases a0 : n < 1
 ·
  rw [if_pos (.inr a0), decide_eq_true a0]; simp [F0.j0]
 rw [if_neg (by omega), decide_eq_false a0]
 simp only [F0.j0]
 rw [if_neg (by simp)]
 have hm : mn w 1048576 = min w 1048576 := by unfold mn; split <;> omega
 rw [hm, ← min_step (by omega)]
 exact after_l0 20 k _ n (by omega) (by omega) (by omega) a1 (have : 1 ≤ min w 1048576 := (by omega); by omega) (by omega)
theorem wf64 {a : Int} (h : (Lit.int .i64 a).wf = true) : -9223372036854775808 ≤ a ∧ a ≤ 9223372036854775807 := by
 simp only [Lit.wf, Bool.and_eq_true, decide_eq_true_eq] at h
 have h1 : IntKind.i64.min = -9223372036854775808 := by decide
 have h2 : IntKind.i64.max = 9223372036854775807 := by decide
 rw [h1, h2] at h
 exact h
theorem pow_le {a b : Nat} (h : a ≤ b) : (2 : Int) ^ a ≤ 2 ^ b := by
 obtain ⟨c, rfl⟩ : ∃ c, b = a + c := ⟨b - a, by omega⟩
 rw [Int.pow_add]
 exact mul_ge (by have := pow_pos' a; omega)
theorem ref_l0 (d : Nat) : ∀ (k : Nat) (x0 x1 x5 : Int), 1 ≤ x0 → 1 ≤ x5 → x1 ≤ 40 → x5 ≤ 40 → x0 ≤ 1048576 * 2 ^ (x5 - 1).toNat → (x1 - x5).toNat = d → d < k →
  Fh.l0 k x0 x1 x5 = some (min (x0 * 2 ^ d) 1048576) := by
 have hp : ∀ m : Nat, m ≤ 39 → (2 : Int) ^ m ≤ 549755813888 := by
  intro m hm
  have := pow_le hm
  simpa using this
 induction d with
 | zero =>
  intro k x0 x1 x5 h0 h1 h2 h3 h4 hd hk
  obtain ⟨k, rfl⟩ : ∃ m, k = m + 1 := ⟨k - 1, by omega⟩
  simp only [Fh.l0]
  rw [if_neg (by omega)]
  simp only [Int.pow_zero, Int.mul_one]
  split
  ·
   congr 1; omega
  congr 1; omega
 | succ d ih =>
  intro k x0 x1 x5 h0 h1 h2 h3 h4 hd hk
  obtain ⟨k, rfl⟩ : ∃ m, k = m + 1 := ⟨k - 1, by omega⟩
  simp only [Fh.l0]
  have := hp (x5 - 1).toNat (by omega)
  have e1 : wrap64 (2 * x0) = 2 * x0 := by unfold wrap64; omega
  have e2 : wrap64 (x5 + 1) = x5 + 1 := by unfold wrap64; omega
  have e3 : (x5 + 1 - 1).toNat = (x5 - 1).toNat + 1 := by omega
  rw [if_pos (by omega), e1, e2, mul_step]
  exact ih k (2 * x0) x1 (x5 + 1) (by omega) (by omega) h2 (by omega) (by rw [e3, Int.pow_succ]; omega) (by omega) (by omega)
theorem ref_after_f (k : Nat) (w n : Int) (hk : 60 ≤ k) : Fh.f k w n = some (aft w n) := by
 obtain ⟨k, rfl⟩ : ∃ m, k = m + 2 := ⟨k - 2, by omega⟩
 unfold Fh.f aft
 by_cases hw : w < 1
 ·
  rw [if_pos hw, if_pos (.inl hw)]; simp [Fh.j0]
 rw [if_neg hw]
 by_cases hn : n < 1
 ·
  rw [if_pos (.inr hn), decide_eq_true hn]; simp [Fh.j0]
 rw [if_neg (by omega), decide_eq_false hn]
 simp only [Fh.j0]
 rw [if_neg (by simp)]
 have hg := mul_ge (x := w) (n := (n - 1).toNat) (by omega)
 by_cases a1 : w ≥ 1048576
 ·
  rw [if_pos a1]
  simp only [Fh.j1, if_true]
  congr 1; omega
 rw [if_neg a1]
 by_cases a0 : n > 40
 ·
  rw [decide_eq_true a0]
  simp only [Fh.j1, if_true]
  have h1 : (2 : Int) ^ 40 ≤ 2 ^ (n - 1).toNat := pow_le (by omega)
  have h2 := Int.mul_le_mul_of_nonneg_right (show (1 : Int) ≤ w by omega) (show (0 : Int) ≤ 2 ^ (n - 1).toNat by omega)
  congr 1; omega
 rw [decide_eq_false a0]
 simp only [Fh.j1]
 rw [if_neg (by simp)]
 exact ref_l0 (n - 1).toNat k w n 1 (by omega) (by omega) (by omega) (by omega) (by simp; omega) rfl (by omega)
def cnt (p : Int) : Int := min (max p 0) 1099511627776
def csum (l : List Int) : Int := (l.map cnt).sum
theorem cnt_bd (p : Int) : 0 ≤ cnt p ∧ cnt p ≤ 1099511627776 := by unfold cnt; omega
theorem csum_cons (p : Int) (l : List Int) : csum (p :: l) = cnt p + csum l := by simp [csum]
theorem csum_nonneg (l : List Int) : 0 ≤ csum l := by
 induction l with
 | nil => simp [csum]
 | cons p l ih => rw [csum_cons]; have := cnt_bd p; omega
theorem cnt_mn (p : Int) : mn (mx p 0) 1099511627776 = cnt p := by unfold mn mx cnt; split <;> split <;> omega
theorem mn_min (a b : Int) : mn a b = min a b := by unfold mn; split <;> omega
theorem rd_at {l : List Int} {i : Int} (h0 : 0 ≤ i) (h : i < l.length) : rd l i = l[i.toNat]'(by omega) := by
 unfold rd
 have : i.toNat < l.length := by omega
 simp [List.getD, this]
theorem until_l0 (xs : List Int) (hn : xs.length ≤ 17592186044416) (d : Nat) : ∀ (k : Nat) (s i : Int), 0 ≤ s → s ≤ 1099511627776 → 0 ≤ i → i ≤ xs.length → (xs.length : Int) - i = d → d < k →
  Fu.l0 k s xs (xs.length : Int) i = some (min (s + csum (xs.drop i.toNat)) 1099511627776) := by
 induction d with
 | zero =>
  intro k s i h0 h1 h2 h3 hd hk
  obtain ⟨k, rfl⟩ : ∃ m, k = m + 1 := ⟨k - 1, by omega⟩
  simp only [Fu.l0]
  rw [if_neg (by omega), List.drop_of_length_le (by omega)]
  simp [csum]
  omega
 | succ d ih =>
  intro k s i h0 h1 h2 h3 hd hk
  obtain ⟨k, rfl⟩ : ∃ m, k = m + 1 := ⟨k - 1, by omega⟩
  simp only [Fu.l0]
  have hj : i.toNat < xs.length := by omega
  have hb := cnt_bd (xs[i.toNat])
  have e1 : wrap64 (i + 1) = i + 1 := by unfold wrap64; omega
  have e2 : wrap64 (s + cnt (xs[i.toNat])) = s + cnt (xs[i.toNat]) := by unfold wrap64; omega
  have hc := csum_nonneg (xs.drop (i.toNat + 1))
  rw [if_pos (by omega), if_pos h2, if_pos (by omega), cnt_mn, rd_at h2 (by omega), e1, e2, mn_min, ih k _ (i + 1) (by omega) (by omega) (by omega) (by omega) (by omega) (by omega)]
  rw [List.drop_eq_getElem_cons hj, csum_cons, show (i + 1).toNat = i.toNat + 1 from by omega]
  congr 1
  omega
theorem until_f (k : Nat) (a : Int) (l : List Int) (hl : l.length ≤ 40) (hk : 50 ≤ k) : Fu.f k a l = some (min (cnt a + csum l) 1099511627776) := by
 unfold Fu.f
 simp only [Option.bind_some]
 rw [if_pos (by simp; omega)]
 have := until_l0 ([a] ++ l) (by simp; omega) ([a] ++ l).length k 0 0 (by omega) (by omega) (by omega) (by omega) (by omega) (by simp; omega)
 rw [this]
 simp [csum_cons]
theorem ref_until_l0 (xs : List Int) (hn : xs.length ≤ 17592186044416) (d : Nat) : ∀ (k : Nat) (s i : Int), 0 ≤ s → 0 ≤ i → i ≤ xs.length → (xs.length : Int) - i = d → 2 * d + 1 < k →
  Ff.l0 k s xs (xs.length : Int) i = some (min (s + csum (xs.drop i.toNat)) 1099511627776) := by
 induction d with
 | zero =>
  intro k s i h0 h2 h3 hd hk
  obtain ⟨k, rfl⟩ : ∃ m, k = m + 1 := ⟨k - 1, by omega⟩
  simp only [Ff.l0]
  rw [if_neg (by omega), List.drop_of_length_le (by omega)]
  simp only [csum, List.map_nil, List.sum_nil, Int.add_zero]
  split
  ·
   congr 1; omega
  congr 1; omega
 | succ d ih =>
  intro k s i h0 h2 h3 hd hk
  obtain ⟨k, rfl⟩ : ∃ m, k = m + 2 := ⟨k - 2, by omega⟩
  have hj : i.toNat < xs.length := by omega
  have e1 : wrap64 (i + 1) = i + 1 := by unfold wrap64; omega
  have hc := csum_nonneg (xs.drop (i.toNat + 1))
  rw [List.drop_eq_getElem_cons hj, csum_cons]
  simp only [Ff.l0]
  rw [if_pos (by omega), if_pos h2, if_pos (by omega), rd_at h2 (by omega)]
  obtain ⟨p, hp⟩ : ∃ p, xs[i.toNat] = p := ⟨_, rfl⟩
  rw [hp]
  by_cases hs : s ≥ 1099511627776
  ·
   rw [if_pos hs]
   simp only [Ff.j2, if_true]
   have := cnt_bd p
   congr 1; omega
  rw [if_neg hs]
  by_cases hq : p ≥ 1099511627776
  ·
   rw [decide_eq_true hq]
   simp only [Ff.j2, if_true]
   unfold cnt
   congr 1; omega
  rw [decide_eq_false hq]
  simp only [Ff.j2]
  rw [if_neg (by simp)]
  by_cases h1 : p > 0
  ·
   have e2 : wrap64 (s + p) = s + p := by unfold wrap64; omega
   rw [if_pos h1, e1, e2, ih k (s + p) (i + 1) (by omega) (by omega) (by omega) (by omega) (by omega), show (i + 1).toNat = i.toNat + 1 from by omega]
   unfold cnt
   congr 1; omega
  rw [if_neg h1, e1, ih k s (i + 1) (by omega) (by omega) (by omega) (by omega) (by omega), show (i + 1).toNat = i.toNat + 1 from by omega]
  unfold cnt
  congr 1; omega
theorem ref_until_f (k : Nat) (a : Int) (l : List Int) (hl : l.length ≤ 40) (hk : 90 ≤ k) : Ff.f k a l = some (min (cnt a + csum l) 1099511627776) := by
 obtain ⟨k, rfl⟩ : ∃ m, k = m + 1 := ⟨k - 1, by omega⟩
 have hc := csum_nonneg l
 unfold Ff.f
 by_cases ha : a > 0
 ·
  rw [if_pos ha]
  simp only [Ff.j0]
  rw [ref_until_l0 l (by omega) l.length k a 0 (by omega) (by omega) (by omega) (by omega) (by omega)]
  unfold cnt
  rw [show (0 : Int).toNat = 0 from rfl, List.drop_zero]
  congr 1; omega
 rw [if_neg ha]
 simp only [Ff.j0]
 rw [ref_until_l0 l (by omega) l.length k 0 0 (by omega) (by omega) (by omega) (by omega) (by omega)]
 unfold cnt
 rw [show (0 : Int).toNat = 0 from rfl, List.drop_zero]
 congr 1; omega
def unt (a : Int) (l : List Int) : Int := min (cnt a + csum l) 1099511627776
theorem unt_f (k : Nat) (a : Int) (l : List Int) (hl : l.length ≤ 40) (hk : 50 ≤ k) : Fu.f k a l = some (unt a l) := until_f k a l hl hk
abbrev St := Int × Int × Int × Int × ByteArray
def noText : ByteArray := ⟨#[]⟩
theorem ref_unt_f (k : Nat) (a : Int) (l : List Int) (hl : l.length ≤ 40) (hk : 90 ≤ k) : Ff.f k a l = some (unt a l) := ref_until_f k a l hl hk
theorem ref_time_f (k : Nat) (a : Int) (hk : 90 ≤ k) : Fy.f k a = some (unt a []) := by
 unfold Fy.f
 rw [ref_unt_f k a [] (by simp) hk]
 rfl
def StandsP (is a0 a2 a1 : Int) (a3 : ByteArray) : Prop :=
 0 ≤ is ∧ is ≤ 5 ∧ 0 ≤ a0 ∧ a0 ≤ 8 ∧ 0 ≤ a2 ∧ a2 ≤ 1099511627776 ∧ 0 ≤ a1 ∧ a1 ≤ 1099511627776 ∧ (a1 > 0 ↔ is = 2) ∧ a3.size ≤ 16 ∧ (a3.data.toList = [] ∨ is = 3)
instance (is a0 a2 a1 : Int) (a3 : ByteArray) : Decidable (StandsP is a0 a2 a1 a3) := by unfold StandsP; infer_instance
def RightP (a1 is a0 a2 a4 : Int) (a3 : ByteArray) : Prop :=
 StandsP is a0 a2 a4 a3 ∧ a0 ≤ a1 ∧ (is = 0 → a0 = 0 ∧ a2 = 0) ∧ (is = 1 → a0 < a1) ∧ (is = 2 ∨ is = 3 → 1 ≤ a0) ∧ (is = 4 → a0 = a1) ∧ (a2 = 0 ∨ is = 1 ∨ is = 2)
instance (a1 is a0 a2 a4 : Int) (a3 : ByteArray) : Decidable (RightP a1 is a0 a2 a4 a3) := by unfold RightP; infer_instance
theorem ofNot {p : Prop} [Decidable p] (h : ¬ p) : some false = some (decide p) := by rw [decide_eq_false h]
theorem ofYes {p : Prop} [Decidable p] (h : p) : some true = some (decide p) := by rw [decide_eq_true h]
theorem ofIff {b : Bool} {p : Prop} [Decidable p] (h : b = true ↔ p) : some b = some (decide p) := by
 congr 1
 by_cases hp : p
 ·
  rw [decide_eq_true hp, h.2 hp]
 rw [decide_eq_false hp]
 exact Bool.eq_false_iff.2 (fun e => hp (h.1 e))
theorem stands_f (k : Nat) (hk : 1 ≤ k) (is a0 a2 a1 : Int) (a4 : ByteArray) : F1.f k is a0 a2 a1 a4 = some (decide (StandsP is a0 a2 a1 a4)) := by
 obtain ⟨k, rfl⟩ : ∃ m, k = m + 1 := ⟨k - 1, by omega⟩
 unfold F1.f
 by_cases h1 : is < 0
 ·
  rw [if_pos h1]; simp only [F1.j0, if_true]; exact ofNot (by unfold StandsP; omega)
 rw [if_neg h1]
 by_cases h2 : is > 5
 ·
  rw [if_pos h2]; simp only [F1.j0, if_true]; exact ofNot (by unfold StandsP; omega)
 rw [if_neg h2]
 by_cases h3 : a0 < 0
 ·
  rw [if_pos h3]; simp only [F1.j0, if_true]; exact ofNot (by unfold StandsP; omega)
 rw [if_neg h3]
 by_cases h4 : a0 > 8
 ·
  rw [if_pos h4]; simp only [F1.j0, if_true]; exact ofNot (by unfold StandsP; omega)
 rw [if_neg h4]
 by_cases h5 : a2 < 0
 ·
  rw [if_pos h5]; simp only [F1.j0, if_true]; exact ofNot (by unfold StandsP; omega)
 rw [if_neg h5]
 simp only [F1.j0]
 by_cases h6 : a2 > 1099511627776
 ·
  rw [if_pos (decide_eq_true h6)]; exact ofNot (by unfold StandsP; omega)
 rw [if_neg (by simpa using h6)]
 by_cases h7 : a1 < 0
 ·
  rw [if_pos h7]; exact ofNot (by unfold StandsP; omega)
 rw [if_neg h7]
 by_cases h8 : a1 > 1099511627776
 ·
  rw [if_pos h8]; exact ofNot (by unfold StandsP; omega)
 rw [if_neg h8]
 by_cases h9 : a1 > 0 ↔ is = 2
 ·
  have e9 : ¬ ((decide (a1 > 0) != (is == 2)) = true) := by
   by_cases a : a1 > 0 <;> by_cases b : is = 2 <;> simp [a, b] <;> omega
  rw [if_neg e9]
  by_cases a5 : (a4.size : Int) ≤ 16
  ·
   rw [if_pos a5]
   by_cases a3 : a4.data.toList = []
   ·
    rw [if_pos (by rw [Go.Lib.toList_data]; exact a3)]
    exact ofYes ⟨by omega, by omega, by omega, by omega, by omega, by omega, by omega, by omega, h9, by omega, .inl a3⟩
   rw [if_neg (by rw [Go.Lib.toList_data]; exact a3)]
   exact ofIff ⟨fun e => ⟨by omega, by omega, by omega, by omega, by omega, by omega, by omega, by omega, h9, by omega, .inr (by simpa using e)⟩, fun e => by
    obtain ⟨_, _, _, _, _, _, _, _, _, _, e⟩ := e
    rcases e with e | e
    ·
     exact absurd e a3
    simpa using e⟩
  rw [if_neg a5]; exact ofNot (by unfold StandsP; omega)
 have e9 : ((decide (a1 > 0) != (is == 2)) = true) := by
  by_cases a : a1 > 0 <;> by_cases b : is = 2 <;> simp [a, b] <;> omega
 rw [if_pos e9]; exact ofNot (by unfold StandsP; omega)
theorem right_f (k : Nat) (hk : 2 ≤ k) (l0 : List Int) (a1 a6 a2 is a0 a4 a5 : Int) (a3 : ByteArray) :
  F6.f k l0 a1 a6 a2 is a0 a4 a5 a3 = some (decide (RightP a1 is a0 a4 a5 a3)) := by
 obtain ⟨k, rfl⟩ : ∃ m, k = m + 1 := ⟨k - 1, by omega⟩
 unfold F6.f
 rw [stands_f (k + 1) (by omega)]
 simp only [Option.bind_some]
 by_cases hs : StandsP is a0 a4 a5 a3
 ·
  rw [if_pos (decide_eq_true hs)]
  simp only [F6.j0]
  by_cases h1 : a0 > a1
  ·
   rw [if_pos (decide_eq_true h1)]; exact ofNot (by unfold RightP; omega)
  rw [if_neg (by simpa using h1)]
  have a7 := hs
  unfold StandsP at a7
  by_cases i0 : is = 0
  ·
   rw [if_pos i0]
   refine ofIff ?_
   have hr : a3.data.toList = [] := by
    rcases a7.2.2.2.2.2.2.2.2.2.2 with h | h
    ·
     exact h
    omega
   simp only [Go.Lib.toList_data, hr, Bool.and_eq_true, beq_iff_eq]
   unfold RightP
   constructor
   ·
    intro h; exact ⟨hs, by omega, by omega, by omega, by omega, by omega, by omega⟩
   intro h; exact ⟨i0, by omega, by omega, by omega, trivial⟩
  rw [if_neg i0]
  by_cases i1 : is = 1
  ·
   rw [if_pos i1]; exact ofIff (by unfold RightP; simp only [decide_eq_true_eq]; exact ⟨fun h => ⟨hs, by omega, by omega, by omega, by omega, by omega, by omega⟩, fun h => by omega⟩)
  rw [if_neg i1]
  by_cases i2 : is = 2
  ·
   rw [if_pos i2]; exact ofIff (by unfold RightP; simp only [decide_eq_true_eq]; exact ⟨fun h => ⟨hs, by omega, by omega, by omega, by omega, by omega, by omega⟩, fun h => by omega⟩)
  rw [if_neg i2]
  by_cases i4 : is = 4
  ·
   rw [if_pos i4]
   by_cases e : a0 = a1
   ·
    rw [if_pos e]; exact ofIff (by unfold RightP; simp only [beq_iff_eq]; exact ⟨fun h => ⟨hs, by omega, by omega, by omega, by omega, by omega, by omega⟩, fun h => by omega⟩)
   rw [if_neg e]; exact ofNot (by unfold RightP; omega)
  rw [if_neg i4]
  by_cases i5 : is = 5
  ·
   rw [if_pos i5]; exact ofIff (by unfold RightP; simp only [beq_iff_eq]; exact ⟨fun h => ⟨hs, by omega, by omega, by omega, by omega, by omega, by omega⟩, fun h => by omega⟩)
  rw [if_neg i5]
  by_cases e : a0 ≥ 1
  ·
   rw [if_pos e]; exact ofIff (by unfold RightP; simp only [beq_iff_eq]; exact ⟨fun h => ⟨hs, by omega, by omega, by omega, by omega, by omega, by omega⟩, fun h => by omega⟩)
  rw [if_neg e]; exact ofNot (by unfold RightP; omega)
 rw [if_neg (by simpa using hs)]
 simp only [F6.j0, if_true]
 exact ofNot (fun h => hs h.1)
theorem ref_stands_f (k : Nat) (hk : 1 ≤ k) (is a0 a2 a1 : Int) (a3 : ByteArray) : Fj.f k is a0 a2 a1 a3 = some (decide (StandsP is a0 a2 a1 a3)) := by
 obtain ⟨k, rfl⟩ : ∃ m, k = m + 1 := ⟨k - 1, by omega⟩
 unfold Fj.f
 by_cases h1 : is < 0
 ·
  rw [if_pos h1]; simp only [Fj.j0, if_true]; exact ofNot (by unfold StandsP; omega)
 rw [if_neg h1]
 by_cases h2 : is > 5
 ·
  rw [if_pos h2]; simp only [Fj.j0, if_true]; exact ofNot (by unfold StandsP; omega)
 rw [if_neg h2]
 by_cases h3 : a0 < 0
 ·
  rw [if_pos h3]; simp only [Fj.j0, if_true]; exact ofNot (by unfold StandsP; omega)
 rw [if_neg h3]
 by_cases h4 : a0 > 8
 ·
  rw [if_pos h4]; simp only [Fj.j0, if_true]; exact ofNot (by unfold StandsP; omega)
 rw [if_neg h4]
 by_cases h5 : a2 < 0
 ·
  rw [if_pos h5]; simp only [Fj.j0, if_true]; exact ofNot (by unfold StandsP; omega)
 rw [if_neg h5]
 by_cases h6 : a2 > 1099511627776
 ·
  rw [if_pos h6]; simp only [Fj.j0, if_true]; exact ofNot (by unfold StandsP; omega)
 rw [if_neg h6]
 by_cases h7 : a1 > 1099511627776
 ·
  rw [if_pos h7]; simp only [Fj.j0, if_true]; exact ofNot (by unfold StandsP; omega)
 rw [if_neg h7]
 simp only [Fj.j0]
 by_cases h8 : (a3.size : Int) > 16
 ·
  rw [if_pos (decide_eq_true h8)]; exact ofNot (by unfold StandsP; omega)
 rw [if_neg (by simpa using h8)]
 by_cases i2 : is = 2
 ·
  rw [if_pos i2]
  by_cases h9 : a1 < 1
  ·
   rw [if_pos h9]; exact ofNot (by unfold StandsP; omega)
  rw [if_neg h9, if_neg (by omega)]
  refine ofIff ?_
  simp only [Go.Lib.toList_data, beq_iff_eq]
  constructor
  ·
   intro h; exact ⟨by omega, by omega, by omega, by omega, by omega, by omega, by omega, by omega, by omega, by omega, .inl h⟩
  rintro ⟨_, _, _, _, _, _, _, _, _, _, h | h⟩
  ·
   exact h
  omega
 rw [if_neg i2]
 by_cases h9 : a1 = 0
 ·
  rw [if_pos h9]
  by_cases i3 : is = 3
  ·
   rw [if_pos i3]
   exact ofYes ⟨by omega, by omega, by omega, by omega, by omega, by omega, by omega, by omega, by omega, by omega, .inr i3⟩
  rw [if_neg i3]
  refine ofIff ?_
  simp only [Go.Lib.toList_data, beq_iff_eq]
  constructor
  ·
   intro h; exact ⟨by omega, by omega, by omega, by omega, by omega, by omega, by omega, by omega, by omega, by omega, .inl h⟩
  rintro ⟨_, _, _, _, _, _, _, _, _, _, h | h⟩
  ·
   exact h
  omega
 rw [if_neg h9]; exact ofNot (by unfold StandsP; omega)
theorem ref_right_f (k : Nat) (hk : 5 ≤ k) (l0 : List Int) (a1 a8 a4 is a0 a2 a6 : Int) (a5 : ByteArray) :
  Fd.f k l0 a1 a8 a4 is a0 a2 a6 a5 = some (decide (RightP a1 is a0 a2 a6 a5)) := by
 obtain ⟨k, rfl⟩ : ∃ m, k = m + 4 := ⟨k - 4, by omega⟩
 unfold Fd.f
 rw [ref_stands_f (k + 4) (by omega)]
 simp only [Option.bind_some]
 by_cases hs : StandsP is a0 a2 a6 a5
 ·
  rw [if_pos (decide_eq_true hs)]
  simp only [Fd.j0]
  by_cases h1 : a0 > a1
  ·
   rw [if_pos (decide_eq_true h1)]; exact ofNot (by unfold RightP; omega)
  rw [if_neg (by simpa using h1)]
  have a9 := hs
  unfold StandsP at a9
  by_cases i0 : is = 0
  ·
   rw [if_pos i0]
   by_cases t0 : a0 = 0
   ·
    rw [if_pos t0]
    simp only [Fd.j1]
    by_cases d0 : a2 = 0
    ·
     rw [if_neg (by simpa using d0), if_neg (by omega)]
     simp only [Fd.j2]
     rw [if_neg (by simp), if_neg (by omega), if_neg (by omega)]
     simp only [Fd.j3]
     rw [if_neg (by simp), if_neg (by omega), if_pos d0]
     exact ofYes (by unfold RightP; exact ⟨hs, by omega, by omega, by omega, by omega, by omega, by omega⟩)
    rw [if_pos (by simpa using d0)]; exact ofNot (by unfold RightP; omega)
   rw [if_neg t0]
   simp only [Fd.j1, if_true]
   exact ofNot (by unfold RightP; omega)
  rw [if_neg i0]
  simp only [Fd.j1]
  rw [if_neg (by simp)]
  by_cases i1 : is = 1
  ·
   rw [if_pos i1]
   simp only [Fd.j2]
   by_cases h2 : a0 ≥ a1
   ·
    rw [if_pos (decide_eq_true h2)]; exact ofNot (by unfold RightP; omega)
   rw [if_neg (by simpa using h2), if_neg (by omega), if_neg (by omega)]
   simp only [Fd.j3]
   rw [if_neg (by simp), if_neg (by omega)]
   have a7 : RightP a1 is a0 a2 a6 a5 := by unfold RightP; exact ⟨hs, by omega, by omega, by omega, by omega, by omega, by omega⟩
   by_cases d0 : a2 = 0
   ·
    rw [if_pos d0]; exact ofYes a7
   rw [if_neg d0, if_pos i1]; exact ofYes a7
  rw [if_neg i1]
  simp only [Fd.j2]
  rw [if_neg (by simp)]
  by_cases i2 : is = 2
  ·
   rw [if_pos i2]
   simp only [Fd.j3]
   by_cases h2 : a0 < 1
   ·
    rw [if_pos (decide_eq_true h2)]; exact ofNot (by unfold RightP; omega)
   rw [if_neg (by simpa using h2), if_neg (by omega)]
   have a7 : RightP a1 is a0 a2 a6 a5 := by unfold RightP; exact ⟨hs, by omega, by omega, by omega, by omega, by omega, by omega⟩
   by_cases d0 : a2 = 0
   ·
    rw [if_pos d0]; exact ofYes a7
   rw [if_neg d0, if_neg i1]; exact ofIff ⟨fun _ => a7, fun _ => by simpa using i2⟩
  rw [if_neg i2]
  have a3 : (if a2 = 0 then some true else if is = 1 then some true else some (is == 2)) = some (decide (a2 = 0)) := by
   by_cases d0 : a2 = 0
   ·
    rw [if_pos d0]; exact ofYes d0
   rw [if_neg d0, if_neg i1]; exact ofIff ⟨fun h => absurd (by simpa using h) i2, fun h => absurd h d0⟩
  by_cases i3 : is = 3
  ·
   rw [if_pos i3]
   simp only [Fd.j3]
   by_cases h2 : a0 < 1
   ·
    rw [if_pos (decide_eq_true h2)]; exact ofNot (by unfold RightP; omega)
   rw [if_neg (by simpa using h2), if_neg (by omega), a3]
   exact ofIff (by simp only [decide_eq_true_eq]; unfold RightP; exact ⟨fun h => ⟨hs, by omega, by omega, by omega, by omega, by omega, by omega⟩, fun h => by omega⟩)
  rw [if_neg i3]
  simp only [Fd.j3]
  rw [if_neg (by simp)]
  by_cases i4 : is = 4
  ·
   rw [if_pos i4]
   by_cases e : a0 = a1
   ·
    rw [if_pos e, a3]
    exact ofIff (by simp only [decide_eq_true_eq]; unfold RightP; exact ⟨fun h => ⟨hs, by omega, by omega, by omega, by omega, by omega, by omega⟩, fun h => by omega⟩)
   rw [if_neg e]; exact ofNot (by unfold RightP; omega)
  rw [if_neg i4, a3]
  exact ofIff (by simp only [decide_eq_true_eq]; unfold RightP; exact ⟨fun h => ⟨hs, by omega, by omega, by omega, by omega, by omega, by omega⟩, fun h => by omega⟩)
 rw [if_neg (by simpa using hs)]
 simp only [Fd.j0, if_true]
 exact ofNot (fun h => hs h.1)
def failV (a1 a2 is a0 : Int) (a3 : ByteArray) (now : Int) : Int × Int × Int × Int × ByteArray × Int :=
 if is = 2 then (if a0 ≥ a1 then (4, a0, 0, 0, a3, 0) else (1, a0, unt now [aft a2 a0], 0, a3, 0)) else (0, 0, 0, 0, noText, 191)
theorem fail_f (k : Nat) (hk : 60 ≤ k) (l0 : List Int) (a1 a2 a3 is a0 a5 a6 : Int) (a4 : ByteArray) (now : Int) (h1 : -9223372036854775808 ≤ a0) (h2 : a0 ≤ 9223372036854775807) :
  Gc.f k l0 a1 a2 a3 is a0 a5 a6 a4 now = some (failV a1 a2 is a0 a4 now) := by
 unfold Gc.f failV
 by_cases i2 : is = 2
 ·
  rw [if_pos i2, if_pos i2]
  by_cases h : a0 ≥ a1
  ·
   rw [if_pos h, if_pos h]
  rw [if_neg h, if_neg h, after_f k a2 a0 h1 h2 (by omega)]
  simp only [Option.bind_some]
  rw [unt_f k now _ (by simp) (by omega)]
  rfl
 rw [if_neg i2, if_neg i2]
 rfl
def expireV (a1 a4 is a0 a2 a5 : Int) (a3 : ByteArray) (now : Int) : St :=
 if is = 2 ∧ a2 ≤ unt now [] then (if a0 ≥ a1 then (4, a0, 0, 0, a3) else (1, a0, unt a2 [aft a4 a0], 0, a3)) else (is, a0, a2, a5, a3)
theorem expire_f (k : Nat) (hk : 60 ≤ k) (l0 : List Int) (a1 a3 a2 is a0 a4 a6 : Int) (a5 : ByteArray) (now : Int) (h1 : -9223372036854775808 ≤ a0) (h2 : a0 ≤ 9223372036854775807) :
  F3.f k l0 a1 a3 a2 is a0 a4 a6 a5 now = some (expireV a1 a3 is a0 a4 a6 a5 now) := by
 unfold F3.f expireV
 by_cases i2 : is = 2
 ·
  rw [if_pos i2, unt_f k now [] (by simp) (by omega)]
  simp only [Option.bind_some]
  by_cases h : a4 > unt now []
  ·
   rw [if_pos h, if_neg (by omega)]
  rw [if_neg h, if_pos ⟨i2, by omega⟩, fail_f k hk l0 a1 a3 a2 is a0 a4 a6 a5 a4 h1 h2]
  unfold failV
  simp only [Option.bind_some]
  rw [if_pos i2]
  split <;> rfl
 rw [if_neg i2, if_neg (by omega)]
theorem ref_fail_f (k : Nat) (hk : 100 ≤ k) (l0 : List Int) (a1 a2 a3 is a0 a5 a6 : Int) (a4 : ByteArray) (now : Int) :
  F8.f k l0 a1 a2 a3 is a0 a5 a6 a4 now = some (failV a1 a2 is a0 a4 now) := by
 unfold F8.f failV
 by_cases i2 : is = 2
 ·
  rw [if_pos i2, if_pos i2]
  by_cases h : a0 ≥ a1
  ·
   rw [if_pos h, if_pos h]
  rw [if_neg h, if_neg h, ref_after_f k a2 a0 (by omega)]
  simp only [Option.bind_some]
  rw [ref_unt_f k now _ (by simp) (by omega)]
  rfl
 rw [if_neg i2, if_neg i2]
 rfl
theorem ref_expire_f (k : Nat) (hk : 100 ≤ k) (l0 : List Int) (a1 a3 a2 is a0 a4 a6 : Int) (a5 : ByteArray) (now : Int) :
  Gb.f k l0 a1 a3 a2 is a0 a4 a6 a5 now = some (expireV a1 a3 is a0 a4 a6 a5 now) := by
 unfold Gb.f expireV
 by_cases i2 : is = 2
 ·
  rw [if_pos i2, ref_time_f k now (by omega)]
  simp only [Option.bind_some]
  by_cases h : a4 ≤ unt now []
  ·
   rw [if_pos h, if_pos ⟨i2, h⟩, ref_fail_f k hk l0 a1 a3 a2 is a0 a4 a6 a5 a4]
   unfold failV
   simp only [Option.bind_some]
   rw [if_pos i2]
   split <;> rfl
  rw [if_neg h, if_neg (by omega)]
 rw [if_neg i2, if_neg (by omega)]
theorem firstS_lt (u : Int) (xs : List S51) (a : Int) (h : -1 ≤ a ∧ a < (xs.length : Int)) (x : Fin xs.length) : -1 ≤ firstS u xs a x ∧ firstS u xs a x < (xs.length : Int) := by
 unfold firstS
 split
 ·
  have := x.isLt; omega
 exact h
theorem over_l0 (now : Int) (ky nm : ByteArray) (ts : List S49) (is : Int) (xs : List S51) (hl : xs.length ≤ 100) : ∀ (m i k : Nat) (a : Int), i + m = xs.length → 2 * m + 200 < k → -1 ≤ a ∧ a < (xs.length : Int) →
  Fl.l0 k now a xs (xs.length : Int) (i : Int) ky nm ts is xs = some (((List.finRange xs.length).drop i).foldl (firstS (unt now []) xs) a) := by
 intro m
 induction m with
 | zero =>
  intro i k a hi hk ha
  obtain ⟨k, rfl⟩ : ∃ q, k = q + 1 := ⟨k - 1, by omega⟩
  rw [Fl.l0, if_neg (by omega), List.drop_eq_nil_of_le (by simp; omega)]
  rfl
 | succ m ih =>
  intro i k a hi hk ha
  obtain ⟨k, rfl⟩ : ∃ q, k = q + 2 := ⟨k - 2, by omega⟩
  have hd : (List.finRange xs.length).drop i = ⟨i, by omega⟩ :: (List.finRange xs.length).drop (i + 1) := by
   rw [List.drop_eq_getElem_cons (show i < (List.finRange xs.length).length by simp; omega)]
   simp
  have hf := firstS_lt (unt now []) xs a ha ⟨i, by omega⟩
  rw [hd, List.foldl_cons, Fl.l0, if_pos (by omega), if_pos (by omega), if_pos (by omega), ref_time_f (k + 1) now (by omega), Option.bind_some]
  unfold firstS at hf ⊢
  dsimp only at hf ⊢
  by_cases h1 : (rd_T51 xs (i : Int)).f0 = 2
  ·
   rw [if_pos h1]
   by_cases h2 : (rd_T51 xs (i : Int)).f2 ≤ unt now []
   ·
    rw [decide_eq_true h2, Fl.j1, if_pos rfl]
    by_cases h3 : a < 0
    ·
     rw [if_pos h3, if_pos ⟨h1, h2, Or.inl h3⟩, wrap_nat i (by omega), ih (i + 1) k i (by omega) (by omega) (by omega)]
     rfl
    rw [if_neg h3, if_pos (by omega), if_pos (by omega)]
    by_cases h4 : (rd_T51 xs (i : Int)).f2 < (rd_T51 xs a).f2
    ·
     rw [if_pos h4, if_pos ⟨h1, h2, Or.inr h4⟩, wrap_nat i (by omega), ih (i + 1) k i (by omega) (by omega) (by omega)]
     rfl
    rw [if_neg h4, if_neg (fun h => h.2.2.elim h3 h4), wrap_nat i (by omega), ih (i + 1) k a (by omega) (by omega) ha]
    rfl
   rw [decide_eq_false h2, Fl.j1, if_neg (by decide), if_neg (fun h => h2 h.2.1), wrap_nat i (by omega), ih (i + 1) k a (by omega) (by omega) ha]
   rfl
  rw [if_neg h1, Fl.j1, if_neg (by decide), if_neg (fun h => h1 h.1), wrap_nat i (by omega), ih (i + 1) k a (by omega) (by omega) ha]
  rfl
theorem over_f (k : Nat) (ky nm : ByteArray) (ts : List S49) (is : Int) (xs : List S51) (now : Int) (hl : xs.length ≤ 100) (hk : 500 ≤ k) :
  Fl.f k ky nm ts is xs now = some (firstF (unt now []) xs (List.finRange xs.length)) := by
 have h := over_l0 now ky nm ts is xs hl xs.length 0 k (-1) (by omega) (by omega) (by omega)
 rw [List.drop_zero] at h
 exact h
def ofV (p : Int × Int × Int × Int × ByteArray) : S51 := ⟨p.1, p.2.1, p.2.2.1, p.2.2.2.1, p.2.2.2.2⟩
def expS (t : S49) (s : S51) (now : Int) : S51 := ofV (expireV t.f1 t.f2 s.f0 s.f1 s.f2 s.f3 s.f4 now)
def Tr (xs : List S51) : Prop := ∀ s ∈ xs, -9223372036854775808 ≤ s.f1 ∧ s.f1 ≤ 9223372036854775807
theorem rd51_mem {xs : List S51} {i : Int} (h0 : 0 ≤ i) (h1 : i < (xs.length : Int)) : rd_T51 xs i ∈ xs := by
 obtain ⟨n, rfl⟩ := Int.eq_ofNat_of_zero_le h0
 rw [rd51_nat xs n (by omega)]
 exact List.getElem_mem _
theorem exp_o (k : Nat) (hk : 60 ≤ k) (t : S49) (s : S51) (now : Int) (h : -9223372036854775808 ≤ s.f1 ∧ s.f1 ≤ 9223372036854775807) : expireO k t s now = some (expS t s now) := by
 unfold expireO
 rw [expire_f k hk _ _ _ _ _ _ _ _ _ _ h.1 h.2, Option.bind_some]
 rfl
def stepS (ts : List S49) (now : Int) (p : Int × List S51) : Int × List S51 :=
 if 0 ≤ firstF (unt now []) p.2 (List.finRange p.2.length) then
  mendP ts p.1 (p.2.set (firstF (unt now []) p.2 (List.finRange p.2.length)).toNat (expS (rd_T49 ts (firstF (unt now []) p.2 (List.finRange p.2.length))) (rd_T51 p.2 (firstF (unt now []) p.2 (List.finRange p.2.length))) now))
 else p
def iterS (ts : List S49) (now : Int) : Nat → Int × List S51 → Int × List S51
 | 0, p => p
 | n + 1, p => iterS ts now n (stepS ts now p)
theorem mendP_len (ts : List S49) (is : Int) (xs : List S51) : (mendP ts is xs).2.length = xs.length := by
 unfold mendP
 split
 ·
  simp
 simp [readyTo_len]
theorem stepS_len (ts : List S49) (now : Int) (p : Int × List S51) : (stepS ts now p).2.length = p.2.length := by
 unfold stepS
 split
 ·
  rw [mendP_len, List.length_set]
 rfl
theorem cancelS_tr (s : S51) : (cancelS s).f1 = s.f1 := by unfold cancelS; split <;> rfl
theorem readyS_tr (s : S51) : (readyS s).f1 = s.f1 := by unfold readyS; split <;> rfl
theorem expS_tr (t : S49) (s : S51) (now : Int) : (expS t s now).f1 = s.f1 := by unfold expS ofV expireV; split <;> (try split) <;> rfl
theorem tr_set {xs : List S51} (h : Tr xs) (i : Nat) (s : S51) (hs : -9223372036854775808 ≤ s.f1 ∧ s.f1 ≤ 9223372036854775807) : Tr (xs.set i s) := by
 intro y hy
 rcases List.mem_or_eq_of_mem_set hy with hy | rfl
 ·
  exact h y hy
 exact hs
theorem tr_ready (ts : List S49) (xs : List S51) (h : Tr xs) : ∀ q, q ≤ xs.length → Tr (readyTo ts xs q)
 | 0, _ => h
 | q + 1, hq => by
  rw [readyTo]
  split
  ·
   exact tr_set (tr_ready ts xs h q (by omega)) _ _ (by rw [readyS_tr]; exact h _ (rd51_mem (by omega) (by omega)))
  exact tr_ready ts xs h q (by omega)
theorem tr_mend (ts : List S49) (is : Int) (xs : List S51) (h : Tr xs) : Tr (mendP ts is xs).2 := by
 unfold mendP
 split
 ·
  intro y hy
  obtain ⟨s, hs, rfl⟩ := List.mem_map.1 hy
  rw [cancelS_tr]
  exact h s hs
 exact tr_ready ts xs h _ (Nat.le_refl _)
theorem tr_step (ts : List S49) (now : Int) (p : Int × List S51) (h : Tr p.2) : Tr (stepS ts now p).2 := by
 unfold stepS
 split
 ·
  rename_i h0
  have h1 := (firstF_lt (unt now []) p.2 (List.finRange p.2.length)).2
  exact tr_mend _ _ _ (tr_set h _ _ (by rw [expS_tr]; exact h _ (rd51_mem h0 h1)))
 exact h
theorem ref_settle_l0 (now : Int) (ky nm : ByteArray) (ts : List S49) (n : Nat) : ∀ (m i k : Nat) (p : Int × List S51), Wf ts p.2.length → n ≤ 10 → i + m = n → m + 600 < k →
  Fk.l0 k now (n : Int) (i : Int) ky nm ts p.1 p.2 = some (ky, nm, ts, (iterS ts now m p).1, (iterS ts now m p).2) := by
 intro m
 induction m with
 | zero =>
  intro i k p hw hn hi hk
  obtain ⟨k, rfl⟩ : ∃ q, k = q + 1 := ⟨k - 1, by omega⟩
  rw [Fk.l0, if_neg (by omega)]
  rfl
 | succ m ih =>
  intro i k p hw hn hi hk
  obtain ⟨k, rfl⟩ : ∃ q, k = q + 1 := ⟨k - 1, by omega⟩
  have hl := hw.2.1
  have a2 := hw.1
  obtain ⟨f, hf⟩ : ∃ f, firstF (unt now []) p.2 (List.finRange p.2.length) = f := ⟨_, rfl⟩
  have hb := firstF_lt (unt now []) p.2 (List.finRange p.2.length)
  have a0 := ih (i + 1) k (stepS ts now p) (by rw [stepS_len]; exact hw) hn (by omega) (by omega)
  rw [iterS]
  unfold stepS at a0 ⊢
  rw [hf] at hb a0 ⊢
  rw [Fk.l0, if_pos (by omega), over_f k ky nm ts p.1 p.2 now (by omega) (by omega), Option.bind_some, hf, wrap_nat i (by omega)]
  by_cases h0 : 0 ≤ f
  ·
   rw [if_pos h0] at a0 ⊢
   rw [if_pos (show f ≥ 0 from h0), if_pos h0, if_pos (by omega), if_pos (by omega), ref_expire_f k (by omega), Option.bind_some]
   obtain ⟨j, rfl⟩ := Int.eq_ofNat_of_zero_le h0
   have a1 := with_f k ky nm ts p.1 p.2 j (expS (rd_T49 ts (j : Int)) (rd_T51 p.2 (j : Int)) now) (by omega) (by omega)
   rw [Int.toNat_natCast] at a0 ⊢
   have hm := ref_mend_f k ky nm ts p.1 (p.2.set j (expS (rd_T49 ts (j : Int)) (rd_T51 p.2 (j : Int)) now)) (by rw [List.length_set]; exact hw) (by omega)
   unfold expS ofV at a1 hm a0 ⊢
   dsimp only at a1 hm a0 ⊢
   rw [a1, Option.bind_some, hm, Option.bind_some]
   exact a0
  rw [if_neg h0] at a0 ⊢
  rw [if_neg (show ¬ f ≥ 0 from h0)]
  exact a0
theorem ref_settle_f (k : Nat) (ky nm : ByteArray) (ts : List S49) (is : Int) (xs : List S51) (now : Int) (h : Wf ts xs.length) (hk : 700 ≤ k) :
  Fk.f k ky nm ts is xs now = some (ky, nm, ts, (iterS ts now xs.length (is, xs)).1, (iterS ts now xs.length (is, xs)).2) :=
 ref_settle_l0 now ky nm ts xs.length xs.length 0 k (is, xs) h h.2.1 (by omega) (by have := h.2.1; omega)
end Go.Proofs.Ytabmkighhmchmaa.Pure
