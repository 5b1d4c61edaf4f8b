-- laid by a program of this session (wip/tools/xprint.py), function by function; Lean checks it
import Derived.Test.YtmnkabdaapiikaaCx0
import Derived.Test.YtmnkabdaapiikaaSq
namespace Go.Proofs.Ytmnkabdaapiikaa.C
open Go.RowKit Go.Proofs.YtmnkabdaapiikaaW.PrintWords Go.Proofs.YtmnkabdaapiikaaW.PrintLast Go.Proofs.YtmnkabdaapiikaaW.PrintMore Go.Proofs.YtmnkabdaapiikaaW.Sq
attribute [local go_sem] max2_int min2_int max_two min_two max_three min_three max_four min_four   -- for this text's walks alone
set_option linter.unusedVariables false
set_option linter.unusedSimpArgs false

/-! ### peneloperef07_Stands: function 20 -/
mutual
def peneloperef07_Stands.l0 : Nat → List ByteArray → Int → Int → Bool → List ByteArray → List ByteArray → List Int → Option (Bool)
 | 0, _, _, _, _, _, _, _ => none
 | k + 1, x14, x15, x16, x121000, x121001, x121002, x121003 => if x16 < x15 then (if 0 ≤ x16 then (if x16 < (x14.length : Int) then (if ((rdOf ByteArray.empty x14 x16).size : Int) < 1 then (some false) else (if ((rdOf ByteArray.empty x14 x16).size : Int) > 32 then (some false) else (if x16 > 0 then (if 0 ≤ (wrap64 (x16 - 1)) then (if (wrap64 (x16 - 1)) < (x121001.length : Int) then (if ((Op.bytesLess ((rdOf ByteArray.empty x121001 (wrap64 (x16 - 1))).toList) ((rdOf ByteArray.empty x14 x16).toList)) = true) then (peneloperef07_Stands.l0 k x14 x15 (wrap64 (x16 + 1)) x121000 x121001 x121002 x121003) else (some false)) else (none)) else (none)) else (peneloperef07_Stands.l0 k x14 x15 (wrap64 (x16 + 1)) x121000 x121001 x121002 x121003)))) else (none)) else (none)) else (peneloperef07_Stands.l1 k x121002 (x121002.length : Int) 0 x121000 x121001 x121002 x121003)
def peneloperef07_Stands.l1 : Nat → List ByteArray → Int → Int → Bool → List ByteArray → List ByteArray → List Int → Option (Bool)
 | 0, _, _, _, _, _, _, _ => none
 | k + 1, x45, x46, x47, x121000, x121001, x121002, x121003 => if x47 < x46 then (if 0 ≤ x47 then (if x47 < (x45.length : Int) then (if ((rdOf ByteArray.empty x45 x47).size : Int) > 200 then (some false) else (peneloperef07_Stands.l1 k x45 x46 (wrap64 (x47 + 1)) x121000 x121001 x121002 x121003)) else (none)) else (none)) else (peneloperef07_Stands.l2 k x121003 (x121003.length : Int) 0 x121000 x121001 x121002 x121003)
def peneloperef07_Stands.l2 : Nat → List Int → Int → Int → Bool → List ByteArray → List ByteArray → List Int → Option (Bool)
 | 0, _, _, _, _, _, _, _ => none
 | k + 1, x56, x57, x58, x121000, x121001, x121002, x121003 => if x58 < x57 then (if 0 ≤ x58 then (if x58 < (x56.length : Int) then (if (rd x56 x58) < 10 then (some false) else (if (rd x56 x58) > 2047 then (some false) else (peneloperef07_Stands.l2 k x56 x57 (wrap64 (x58 + 1)) x121000 x121001 x121002 x121003))) else (none)) else (none)) else (if x121000 = true then (if (x121002.length : Int) = (x121001.length : Int) then (some ((x121003.length : Int) == 0)) else (some false)) else (if (x121002.length : Int) = 0 then (if (x121001.length : Int) ≥ 1 then (some ((x121003.length : Int) == (wrap64 ((x121001.length : Int) + 1)))) else (some false)) else (some false)))
end
def peneloperef07_Stands.f (k : Nat) (a0_0 : Bool) (l0_1 : List ByteArray) (l0_2 : List ByteArray) (l0_3 : List Int) : Option (Bool) := if (l0_1.length : Int) > 9 then (some false) else (peneloperef07_Stands.l0 k l0_1 (l0_1.length : Int) 0 a0_0 l0_1 l0_2 l0_3)
theorem peneloperef07_Stands.mono_l : ∀ k, (∀ y0 y1 y2 y3 y4 y5 y6, LeO (peneloperef07_Stands.l0 k y0 y1 y2 y3 y4 y5 y6) (peneloperef07_Stands.l0 (k + 1) y0 y1 y2 y3 y4 y5 y6)) ∧ (∀ y0 y1 y2 y3 y4 y5 y6, LeO (peneloperef07_Stands.l1 k y0 y1 y2 y3 y4 y5 y6) (peneloperef07_Stands.l1 (k + 1) y0 y1 y2 y3 y4 y5 y6)) ∧ (∀ y0 y1 y2 y3 y4 y5 y6, LeO (peneloperef07_Stands.l2 k y0 y1 y2 y3 y4 y5 y6) (peneloperef07_Stands.l2 (k + 1) y0 y1 y2 y3 y4 y5 y6))
 | 0 => ⟨fun _ _ _ _ _ _ _ r h => by simp [peneloperef07_Stands.l0] at h, fun _ _ _ _ _ _ _ r h => by simp [peneloperef07_Stands.l1] at h, fun _ _ _ _ _ _ _ r h => by simp [peneloperef07_Stands.l2] at h⟩
 | k + 1 => by
  obtain ⟨ih0, ih1, ih2⟩ := peneloperef07_Stands.mono_l k
  refine ⟨?_, ?_, ?_⟩
  ·
   intro y0 y1 y2 y3 y4 y5 y6
   unfold peneloperef07_Stands.l0
   repeat' first
   | (with_reducible exact ih0 _ _ _ _ _ _ _)
   | (with_reducible exact ih1 _ _ _ _ _ _ _)
   | (with_reducible exact ih2 _ _ _ _ _ _ _)
   | (with_reducible exact LeO.refl _)
   | (with_reducible exact LeO.none _)
   | (with_reducible refine LeO.ite ?_ ?_)
   | (with_reducible refine LeO.bind ?_ (fun _ => ?_))
   | exact ih0 _ _ _ _ _ _ _
   | exact ih1 _ _ _ _ _ _ _
   | exact ih2 _ _ _ _ _ _ _
   | exact LeO.none _
   | refine LeO.ite ?_ ?_
   | refine LeO.bind ?_ (fun _ => ?_)
  ·
   intro y0 y1 y2 y3 y4 y5 y6
   unfold peneloperef07_Stands.l1
   repeat' first
   | (with_reducible exact ih0 _ _ _ _ _ _ _)
   | (with_reducible exact ih1 _ _ _ _ _ _ _)
   | (with_reducible exact ih2 _ _ _ _ _ _ _)
   | (with_reducible exact LeO.refl _)
   | (with_reducible exact LeO.none _)
   | (with_reducible refine LeO.ite ?_ ?_)
   | (with_reducible refine LeO.bind ?_ (fun _ => ?_))
   | exact ih0 _ _ _ _ _ _ _
   | exact ih1 _ _ _ _ _ _ _
   | exact ih2 _ _ _ _ _ _ _
   | exact LeO.none _
   | refine LeO.ite ?_ ?_
   | refine LeO.bind ?_ (fun _ => ?_)
  ·
   intro y0 y1 y2 y3 y4 y5 y6
   unfold peneloperef07_Stands.l2
   repeat' first
   | (with_reducible exact ih0 _ _ _ _ _ _ _)
   | (with_reducible exact ih1 _ _ _ _ _ _ _)
   | (with_reducible exact ih2 _ _ _ _ _ _ _)
   | (with_reducible exact LeO.refl _)
   | (with_reducible exact LeO.none _)
   | (with_reducible refine LeO.ite ?_ ?_)
   | (with_reducible refine LeO.bind ?_ (fun _ => ?_))
   | exact ih0 _ _ _ _ _ _ _
   | exact ih1 _ _ _ _ _ _ _
   | exact ih2 _ _ _ _ _ _ _
   | exact LeO.none _
   | refine LeO.ite ?_ ?_
   | refine LeO.bind ?_ (fun _ => ?_)
theorem peneloperef07_Stands.mono : ∀ a0 a1 a2 a3 k, LeO (peneloperef07_Stands.f k a0 a1 a2 a3) (peneloperef07_Stands.f (k + 1) a0 a1 a2 a3) := by
 intro a0 a1 a2 a3 k
 obtain ⟨ih0, ih1, ih2⟩ := peneloperef07_Stands.mono_l k
 unfold peneloperef07_Stands.f
 repeat' first
   | (with_reducible exact ih0 _ _ _ _ _ _ _)
   | (with_reducible exact ih1 _ _ _ _ _ _ _)
   | (with_reducible exact ih2 _ _ _ _ _ _ _)
   | (with_reducible exact LeO.refl _)
   | (with_reducible exact LeO.none _)
   | (with_reducible refine LeO.ite ?_ ?_)
   | (with_reducible refine LeO.bind ?_ (fun _ => ?_))
   | exact ih0 _ _ _ _ _ _ _
   | exact ih1 _ _ _ _ _ _ _
   | exact ih2 _ _ _ _ _ _ _
   | exact LeO.none _
   | refine LeO.ite ?_ ?_
   | refine LeO.bind ?_ (fun _ => ?_)
set_option maxHeartbeats 8000000 in
set_option maxRecDepth 100000 in
theorem peneloperef07_Stands.calls (k : Nat) (a0_0 : Bool) (A0_1 : Option Addr) (c0_1 : Nat) (l0_1 : List ByteArray) (A0_2 : Option Addr) (c0_2 : Nat) (l0_2 : List ByteArray) (A0_3 : Option Addr) (c0_3 : Nat) (l0_3 : List Int) (r : Bool) (w : World) (hr0_1 : Kd.C Kd.string w A0_1 l0_1.length l0_1) (hc0_1 : l0_1.length ≤ c0_1) (hr0_2 : Kd.C Kd.string w A0_2 l0_2.length l0_2) (hc0_2 : l0_2.length ≤ c0_2) (hr0_3 : Kd.C (Kd.int .i64) w A0_3 l0_3.length l0_3) (hc0_3 : l0_3.length ≤ c0_3) (h : peneloperef07_Stands.f k a0_0 l0_1 l0_2 l0_3 = some r) :
  Calls Try.prog 20 #[.agg #[.bool a0_0, .slice A0_1 l0_1.length c0_1, .slice A0_2 l0_2.length c0_2, .slice A0_3 l0_3.length c0_3]] w fun e w' => e = .returned (.bool r) ∧ Below w.heap.size w w' := by
 have hu25 := Try.underlying25
 have HR0_1 := am hr0_1
 have HC0_1 := am hc0_1
 clear hr0_1 hc0_1
 have HR0_2 := am hr0_2
 have HC0_2 := am hc0_2
 clear hr0_2 hc0_2
 have HR0_3 := am hr0_3
 have HC0_3 := am hc0_3
 clear hr0_3 hc0_3
 have HB := am (Below.refl w.heap.size w)
 have H : (if (l0_1.length : Int) > 9 then (some false) else (peneloperef07_Stands.l0 k l0_1 (l0_1.length : Int) 0 a0_0 l0_1 l0_2 l0_3)) = some r := h
 clear h
 by_cases c2 : (l0_1.length : Int) > 9
 ·
  rw [if_pos c2] at H
  have c2b0 : decide (9 < (l0_1.length : Int)) = true := decide_eq_true c2
  have c2b1 : decide (9 < l0_1.length) = true := decide_eq_true (by omega)
  clear c2
  obtain rfl := Option.some.inj H
  go_enter Try.func20, Try.ntmps20
  go_wp2_with (first | ((with_reducible refine gate_dst (N := 1) rfl ?_); (try (refine gate_guard (by rfl) ?_; dsimp only)); refine bx 1 #[.bool a0_0, .slice A0_1 l0_1.length c0_1, .slice A0_2 l0_2.length c0_2, .slice A0_3 l0_3.length c0_3] 25 ?_; intro gb120 hg w3 hbox hb; have BK120 := am (hbox); have GW120 := am (gs hg (pB HB.out)); have GE120 := am (gs hg (pB HB.out)); replace HB := am (below_step (pB HB.out) hb); clear hb hbox hg; obtain ⟨hcz4_0, hcz4_1, hcz4_2, hcz4_3⟩ := c4 BK120.out; obtain ⟨hfz4_0, hfz4_1, hfz4_2, hfz4_3⟩ := z4 BK120.out))
  go_ret
  exact ⟨by first | rfl | (simp [errW_none, errW_some] <;> rfl) | (simp [*, errW_none, errW_some] <;> rfl), pB HB.out⟩
 ·
  rw [if_neg c2] at H
  have c2b0 : decide (9 < (l0_1.length : Int)) = false := decide_eq_false c2
  have c2b1 : decide (9 < l0_1.length) = false := decide_eq_false (by omega)
  clear c2
  have H' := am H
  clear H
  go_enter Try.func20, Try.ntmps20
  go_wp2_with (first | ((with_reducible refine gate_dst (N := 1) rfl ?_); (try (refine gate_guard (by rfl) ?_; dsimp only)); refine bx 1 #[.bool a0_0, .slice A0_1 l0_1.length c0_1, .slice A0_2 l0_2.length c0_2, .slice A0_3 l0_3.length c0_3] 25 ?_; intro gb120 hg w5 hbox hb; have BK120 := am (hbox); have GW120 := am (gs hg (pB HB.out)); have GE120 := am (gs hg (pB HB.out)); replace HB := am (below_step (pB HB.out) hb); clear hb hbox hg; obtain ⟨hcz6_0, hcz6_1, hcz6_2, hcz6_3⟩ := c4 BK120.out; obtain ⟨hfz6_0, hfz6_1, hfz6_2, hfz6_3⟩ := z4 BK120.out))
  go_loopg [16] k (fun kq v16 w' => ∃ (x16_1 : Int), v16 = .int .i64 x16_1 ∧ Aside0 (peneloperef07_Stands.l0 kq l0_1 (l0_1.length : Int) x16_1 a0_0 l0_1 l0_2 l0_3 = some r) ∧ Aside0 (kq ≤ k) ∧ Aside0 (w'.heap[gb120]? = some (.cells #[.bool a0_0, (.slice A0_1 l0_1.length c0_1), (.slice A0_2 l0_2.length c0_2), (.slice A0_3 l0_3.length c0_3)] 25 (0, 0))) ∧ Aside0 (Below w.heap.size w w'))
  case atStart => exact ⟨(0), (by first | rfl | (simp; done) | (simp [*]; done)), H', ⟨Nat.le_refl _⟩, ⟨pk BK120.out⟩, ⟨pB HB.out⟩⟩
  case round =>
   clear H'
   try clear c2
   try clear c2b0
   try clear c2b1
   try clear p2
   try clear hcz4_0
   try clear hcz4_1
   try clear hcz4_2
   try clear hcz4_3
   try clear hcz6_0
   try clear hcz6_1
   try clear hcz6_2
   try clear hcz6_3
   try clear hfz4_0
   try clear hfz4_1
   try clear hfz4_2
   try clear hfz4_3
   try clear hfz6_0
   try clear hfz6_1
   try clear hfz6_2
   try clear hfz6_3
   try clear BK120; try clear HB
   obtain ⟨x16_1, rfl, HA, HK1, BK120, HB⟩ := hrel
   cases gk with
   | zero => exact absurd HA.out (by simp [peneloperef07_Stands.l0])
   | succ k1 =>
    have H := HA.out
    clear HA
    simp only [peneloperef07_Stands.l0] at H
    by_cases c7 : x16_1 < (l0_1.length : Int)
    ·
     rw [if_pos c7] at H
     have c7b0 : decide (x16_1 < (l0_1.length : Int)) = true := decide_eq_true c7
     clear c7
     by_cases c8 : 0 ≤ x16_1
     ·
      rw [if_pos c8] at H
      have c8b0 : decide (0 ≤ x16_1) = true := decide_eq_true c8
      clear c8
      by_cases c9 : x16_1 < (l0_1.length : Int)
      ·
       rw [if_pos c9] at H
       have c9b0 : decide (x16_1 < (l0_1.length : Int)) = true := decide_eq_true c9
       clear c9
       by_cases c10 : ((rdOf ByteArray.empty l0_1 x16_1).size : Int) < 1
       ·
        rw [if_pos c10] at H
        have c10b0 : decide (((rdOf ByteArray.empty l0_1 x16_1).size : Int) < 1) = true := decide_eq_true c10
        have c10b1 : decide ((rdOf ByteArray.empty l0_1 x16_1).size < 1) = true := decide_eq_true (by omega)
        clear c10
        obtain rfl := Option.some.inj H
        have p121 : 0 ≤ (x16_1 : Int) := of_decide_eq_true (by first | (with_reducible assumption) | assumption)
        have q121 : x16_1 < (l0_1.length : Int) := of_decide_eq_true (by first | (with_reducible assumption) | assumption)
        obtain ⟨ad121, e121, hx121_0⟩ := Kd.at_string HR0_1.out x16_1 p121 q121
        cases e121
        replace hx121_0 := (HB.out.cell (World.block_lt_of_cell? w _ hx121_0)).trans hx121_0
        replace p121 := eq_true p121
        replace q121 := eq_true q121
        go_wp2
        go_ret
        exact ⟨by first | rfl | (simp [errW_none, errW_some] <;> rfl) | (simp [*, errW_none, errW_some] <;> rfl), pB HB.out⟩
       ·
        rw [if_neg c10] at H
        have c10b0 : decide (((rdOf ByteArray.empty l0_1 x16_1).size : Int) < 1) = false := decide_eq_false c10
        have c10b1 : decide ((rdOf ByteArray.empty l0_1 x16_1).size < 1) = false := decide_eq_false (by omega)
        clear c10
        by_cases c11 : ((rdOf ByteArray.empty l0_1 x16_1).size : Int) > 32
        ·
         rw [if_pos c11] at H
         have c11b0 : decide (32 < ((rdOf ByteArray.empty l0_1 x16_1).size : Int)) = true := decide_eq_true c11
         have c11b1 : decide (32 < (rdOf ByteArray.empty l0_1 x16_1).size) = true := decide_eq_true (by omega)
         clear c11
         obtain rfl := Option.some.inj H
         have p121 : 0 ≤ (x16_1 : Int) := of_decide_eq_true (by first | (with_reducible assumption) | assumption)
         have q121 : x16_1 < (l0_1.length : Int) := of_decide_eq_true (by first | (with_reducible assumption) | assumption)
         obtain ⟨ad121, e121, hx121_0⟩ := Kd.at_string HR0_1.out x16_1 p121 q121
         cases e121
         replace hx121_0 := (HB.out.cell (World.block_lt_of_cell? w _ hx121_0)).trans hx121_0
         replace p121 := eq_true p121
         replace q121 := eq_true q121
         go_wp2
         go_ret
         exact ⟨by first | rfl | (simp [errW_none, errW_some] <;> rfl) | (simp [*, errW_none, errW_some] <;> rfl), pB HB.out⟩
        ·
         rw [if_neg c11] at H
         have c11b0 : decide (32 < ((rdOf ByteArray.empty l0_1 x16_1).size : Int)) = false := decide_eq_false c11
         have c11b1 : decide (32 < (rdOf ByteArray.empty l0_1 x16_1).size) = false := decide_eq_false (by omega)
         clear c11
         by_cases c12 : x16_1 > 0
         ·
          rw [if_pos c12] at H
          have c12b0 : decide (0 < x16_1) = true := decide_eq_true c12
          clear c12
          obtain ⟨ji13, hji13⟩ : ∃ j_ : Int, (wrap64 (x16_1 - 1)) = j_ := ⟨_, rfl⟩
          replace H : (if 0 ≤ (ji13) then (if (ji13) < (l0_1.length : Int) then (if ((Op.bytesLess ((rdOf ByteArray.empty l0_1 (ji13)).toList) ((rdOf ByteArray.empty l0_1 x16_1).toList)) = true) then (peneloperef07_Stands.l0 k1 l0_1 (l0_1.length : Int) (wrap64 (x16_1 + 1)) a0_0 l0_1 l0_2 l0_3) else (some false)) else (none)) else (none)) = some r := by first | (rw [hji13] at H; exact H) | (simp only [hji13] at H ⊢; exact H)
          have hji13w : (IntKind.i64.wrap (x16_1 - 1)) = ji13 := (i64_w _).trans hji13
          by_cases c14 : 0 ≤ (ji13)
          ·
           rw [if_pos c14] at H
           have c14b0 : decide (0 ≤ (ji13)) = true := decide_eq_true c14
           clear c14
           by_cases c15 : (ji13) < (l0_1.length : Int)
           ·
            rw [if_pos c15] at H
            have c15b0 : decide ((ji13) < (l0_1.length : Int)) = true := decide_eq_true c15
            clear c15
            by_cases c16 : ((Op.bytesLess ((rdOf ByteArray.empty l0_1 (ji13)).toList) ((rdOf ByteArray.empty l0_1 x16_1).toList)) = true)
            ·
             rw [if_pos c16] at H
             have c16b0 : (Op.bytesLess ((rdOf ByteArray.empty l0_1 (ji13)).toList) ((rdOf ByteArray.empty l0_1 x16_1).toList)) = true := c16
             clear c16
             have H' := am H
             clear H
             have p121 : 0 ≤ (x16_1 : Int) := of_decide_eq_true (by first | (with_reducible assumption) | assumption)
             have q121 : x16_1 < (l0_1.length : Int) := of_decide_eq_true (by first | (with_reducible assumption) | assumption)
             obtain ⟨ad121, e121, hx121_0⟩ := Kd.at_string HR0_1.out x16_1 p121 q121
             cases e121
             replace hx121_0 := (HB.out.cell (World.block_lt_of_cell? w _ hx121_0)).trans hx121_0
             replace p121 := eq_true p121
             replace q121 := eq_true q121
             obtain ⟨hcz17_0, hcz17_1, hcz17_2, hcz17_3⟩ := c4 BK120.out
             obtain ⟨hfz17_0, hfz17_1, hfz17_2, hfz17_3⟩ := z4 BK120.out
             have p122 : 0 ≤ ((ji13) : Int) := of_decide_eq_true (by first | (with_reducible assumption) | assumption)
             have q122 : (ji13) < (l0_1.length : Int) := of_decide_eq_true (by first | (with_reducible assumption) | assumption)
             obtain ⟨ad122, e122, hx122_0⟩ := Kd.at_string HR0_1.out (ji13) p122 q122
             obtain rfl : ad121 = ad122 := (by injection e122)
             replace hx122_0 := (HB.out.cell (World.block_lt_of_cell? w _ hx122_0)).trans hx122_0
             replace p122 := eq_true p122
             replace q122 := eq_true q122
             go_wp2
             go_roundg k1
             case measure => have := HK1.out; omega
             case rel => exact ⟨(wrap64 (x16_1 + 1)), (by first | rfl | (simp; done) | (simp [*]; done)), H', ⟨by have := HK1.out; omega⟩, ⟨pk BK120.out⟩, ⟨pB HB.out⟩⟩
            ·
             rw [if_neg c16] at H
             have c16b0 : (Op.bytesLess ((rdOf ByteArray.empty l0_1 (ji13)).toList) ((rdOf ByteArray.empty l0_1 x16_1).toList)) = false := by simpa using c16
             clear c16
             obtain rfl := Option.some.inj H
             have p121 : 0 ≤ (x16_1 : Int) := of_decide_eq_true (by first | (with_reducible assumption) | assumption)
             have q121 : x16_1 < (l0_1.length : Int) := of_decide_eq_true (by first | (with_reducible assumption) | assumption)
             obtain ⟨ad121, e121, hx121_0⟩ := Kd.at_string HR0_1.out x16_1 p121 q121
             cases e121
             replace hx121_0 := (HB.out.cell (World.block_lt_of_cell? w _ hx121_0)).trans hx121_0
             replace p121 := eq_true p121
             replace q121 := eq_true q121
             obtain ⟨hcz18_0, hcz18_1, hcz18_2, hcz18_3⟩ := c4 BK120.out
             obtain ⟨hfz18_0, hfz18_1, hfz18_2, hfz18_3⟩ := z4 BK120.out
             have p122 : 0 ≤ ((ji13) : Int) := of_decide_eq_true (by first | (with_reducible assumption) | assumption)
             have q122 : (ji13) < (l0_1.length : Int) := of_decide_eq_true (by first | (with_reducible assumption) | assumption)
             obtain ⟨ad122, e122, hx122_0⟩ := Kd.at_string HR0_1.out (ji13) p122 q122
             obtain rfl : ad121 = ad122 := (by injection e122)
             replace hx122_0 := (HB.out.cell (World.block_lt_of_cell? w _ hx122_0)).trans hx122_0
             replace p122 := eq_true p122
             replace q122 := eq_true q122
             go_wp2
             go_ret
             exact ⟨by first | rfl | (simp [errW_none, errW_some] <;> rfl) | (simp only [← hji13]; first | rfl | (simp [errW_none, errW_some] <;> rfl)) | (simp [*, errW_none, errW_some] <;> rfl), pB HB.out⟩
           ·
            rw [if_neg c15] at H
            exact absurd H (by simp)
          ·
           rw [if_neg c14] at H
           exact absurd H (by simp)
         ·
          rw [if_neg c12] at H
          have c12b0 : decide (0 < x16_1) = false := decide_eq_false c12
          clear c12
          have H' := am H
          clear H
          have p121 : 0 ≤ (x16_1 : Int) := of_decide_eq_true (by first | (with_reducible assumption) | assumption)
          have q121 : x16_1 < (l0_1.length : Int) := of_decide_eq_true (by first | (with_reducible assumption) | assumption)
          obtain ⟨ad121, e121, hx121_0⟩ := Kd.at_string HR0_1.out x16_1 p121 q121
          cases e121
          replace hx121_0 := (HB.out.cell (World.block_lt_of_cell? w _ hx121_0)).trans hx121_0
          replace p121 := eq_true p121
          replace q121 := eq_true q121
          go_wp2
          go_roundg k1
          case measure => have := HK1.out; omega
          case rel => exact ⟨(wrap64 (x16_1 + 1)), (by first | rfl | (simp; done) | (simp [*]; done)), H', ⟨by have := HK1.out; omega⟩, ⟨pk BK120.out⟩, ⟨pB HB.out⟩⟩
      ·
       rw [if_neg c9] at H
       exact absurd H (by simp)
     ·
      rw [if_neg c8] at H
      exact absurd H (by simp)
    ·
     rw [if_neg c7] at H
     have c7b0 : decide (x16_1 < (l0_1.length : Int)) = false := decide_eq_false c7
     clear c7
     have H' := am H
     clear H
     obtain ⟨hcz19_0, hcz19_1, hcz19_2, hcz19_3⟩ := c4 BK120.out
     obtain ⟨hfz19_0, hfz19_1, hfz19_2, hfz19_3⟩ := z4 BK120.out
     go_wp2
     go_loopg [47] k1 (fun kq v47 w' => ∃ (x47_2 : Int), v47 = .int .i64 x47_2 ∧ Aside0 (peneloperef07_Stands.l1 kq l0_2 (l0_2.length : Int) x47_2 a0_0 l0_1 l0_2 l0_3 = some r) ∧ Aside0 (kq ≤ k1) ∧ Aside0 (w'.heap[gb120]? = some (.cells #[.bool a0_0, (.slice A0_1 l0_1.length c0_1), (.slice A0_2 l0_2.length c0_2), (.slice A0_3 l0_3.length c0_3)] 25 (0, 0))) ∧ Aside0 (Below w.heap.size w w'))
     case atStart => exact ⟨(0), (by first | rfl | (simp; done) | (simp [*]; done)), H', ⟨Nat.le_refl _⟩, ⟨pk BK120.out⟩, ⟨pB HB.out⟩⟩
     case round =>
      clear H'
      try clear c1
      try clear p1
      try clear q1
      try clear hx1
      try clear c2
      try clear c2b0
      try clear c2b1
      try clear p2
      try clear p6
      try clear c7
      try clear c7b0
      try clear c8
      try clear c8b0
      try clear c9
      try clear c9b0
      try clear c10
      try clear c10b0
      try clear c10b1
      try clear c11
      try clear c11b0
      try clear c11b1
      try clear c12
      try clear c12b0
      try clear p12
      try clear q12
      try clear hx12
      try clear c14
      try clear c14b0
      try clear c15
      try clear c15b0
      try clear c16
      try clear c16b0
      try clear hcz17_0
      try clear hcz17_1
      try clear hcz17_2
      try clear hcz17_3
      try clear hcz18_0
      try clear hcz18_1
      try clear hcz18_2
      try clear hcz18_3
      try clear hcz19_0
      try clear hcz19_1
      try clear hcz19_2
      try clear hcz19_3
      try clear hcz4_0
      try clear hcz4_1
      try clear hcz4_2
      try clear hcz4_3
      try clear hcz6_0
      try clear hcz6_1
      try clear hcz6_2
      try clear hcz6_3
      try clear hfz17_0
      try clear hfz17_1
      try clear hfz17_2
      try clear hfz17_3
      try clear hfz18_0
      try clear hfz18_1
      try clear hfz18_2
      try clear hfz18_3
      try clear hfz19_0
      try clear hfz19_1
      try clear hfz19_2
      try clear hfz19_3
      try clear hfz4_0
      try clear hfz4_1
      try clear hfz4_2
      try clear hfz4_3
      try clear hfz6_0
      try clear hfz6_1
      try clear hfz6_2
      try clear hfz6_3
      try clear hx121_0
      try clear hx122_0
      try clear p121
      try clear p122
      try clear p2
      try clear q121
      try clear q122
      try clear BK120; try clear HB
      obtain ⟨x47_2, rfl, HA, HK2, BK120, HB⟩ := hrel
      cases gk with
      | zero => exact absurd HA.out (by simp [peneloperef07_Stands.l1])
      | succ k2 =>
       have H := HA.out
       clear HA
       simp only [peneloperef07_Stands.l1] at H
       by_cases c20 : x47_2 < (l0_2.length : Int)
       ·
        rw [if_pos c20] at H
        have c20b0 : decide (x47_2 < (l0_2.length : Int)) = true := decide_eq_true c20
        clear c20
        by_cases c21 : 0 ≤ x47_2
        ·
         rw [if_pos c21] at H
         have c21b0 : decide (0 ≤ x47_2) = true := decide_eq_true c21
         clear c21
         by_cases c22 : x47_2 < (l0_2.length : Int)
         ·
          rw [if_pos c22] at H
          have c22b0 : decide (x47_2 < (l0_2.length : Int)) = true := decide_eq_true c22
          clear c22
          by_cases c23 : ((rdOf ByteArray.empty l0_2 x47_2).size : Int) > 200
          ·
           rw [if_pos c23] at H
           have c23b0 : decide (200 < ((rdOf ByteArray.empty l0_2 x47_2).size : Int)) = true := decide_eq_true c23
           have c23b1 : decide (200 < (rdOf ByteArray.empty l0_2 x47_2).size) = true := decide_eq_true (by omega)
           clear c23
           obtain rfl := Option.some.inj H
           have p123 : 0 ≤ (x47_2 : Int) := of_decide_eq_true (by first | (with_reducible assumption) | assumption)
           have q123 : x47_2 < (l0_2.length : Int) := of_decide_eq_true (by first | (with_reducible assumption) | assumption)
           obtain ⟨ad123, e123, hx123_0⟩ := Kd.at_string HR0_2.out x47_2 p123 q123
           cases e123
           replace hx123_0 := (HB.out.cell (World.block_lt_of_cell? w _ hx123_0)).trans hx123_0
           replace p123 := eq_true p123
           replace q123 := eq_true q123
           go_wp2
           go_ret
           exact ⟨by first | rfl | (simp [errW_none, errW_some] <;> rfl) | (simp [*, errW_none, errW_some] <;> rfl), pB HB.out⟩
          ·
           rw [if_neg c23] at H
           have c23b0 : decide (200 < ((rdOf ByteArray.empty l0_2 x47_2).size : Int)) = false := decide_eq_false c23
           have c23b1 : decide (200 < (rdOf ByteArray.empty l0_2 x47_2).size) = false := decide_eq_false (by omega)
           clear c23
           have H' := am H
           clear H
           have p123 : 0 ≤ (x47_2 : Int) := of_decide_eq_true (by first | (with_reducible assumption) | assumption)
           have q123 : x47_2 < (l0_2.length : Int) := of_decide_eq_true (by first | (with_reducible assumption) | assumption)
           obtain ⟨ad123, e123, hx123_0⟩ := Kd.at_string HR0_2.out x47_2 p123 q123
           cases e123
           replace hx123_0 := (HB.out.cell (World.block_lt_of_cell? w _ hx123_0)).trans hx123_0
           replace p123 := eq_true p123
           replace q123 := eq_true q123
           go_wp2
           go_roundg k2
           case measure => have := HK1.out; have := HK2.out; omega
           case rel => exact ⟨(wrap64 (x47_2 + 1)), (by first | rfl | (simp; done) | (simp [*]; done)), H', ⟨by have := HK1.out; have := HK2.out; omega⟩, ⟨pk BK120.out⟩, ⟨pB HB.out⟩⟩
         ·
          rw [if_neg c22] at H
          exact absurd H (by simp)
        ·
         rw [if_neg c21] at H
         exact absurd H (by simp)
       ·
        rw [if_neg c20] at H
        have c20b0 : decide (x47_2 < (l0_2.length : Int)) = false := decide_eq_false c20
        clear c20
        have H' := am H
        clear H
        obtain ⟨hcz24_0, hcz24_1, hcz24_2, hcz24_3⟩ := c4 BK120.out
        obtain ⟨hfz24_0, hfz24_1, hfz24_2, hfz24_3⟩ := z4 BK120.out
        go_wp2
        go_loopg [58] k2 (fun kq v58 w' => ∃ (x58_3 : Int), v58 = .int .i64 x58_3 ∧ Aside0 (peneloperef07_Stands.l2 kq l0_3 (l0_3.length : Int) x58_3 a0_0 l0_1 l0_2 l0_3 = some r) ∧ Aside0 (kq ≤ k2) ∧ Aside0 (w'.heap[gb120]? = some (.cells #[.bool a0_0, (.slice A0_1 l0_1.length c0_1), (.slice A0_2 l0_2.length c0_2), (.slice A0_3 l0_3.length c0_3)] 25 (0, 0))) ∧ Aside0 (Below w.heap.size w w'))
        case atStart => exact ⟨(0), (by first | rfl | (simp; done) | (simp [*]; done)), H', ⟨Nat.le_refl _⟩, ⟨pk BK120.out⟩, ⟨pB HB.out⟩⟩
        case round =>
         clear H'
         try clear c1
         try clear p1
         try clear q1
         try clear hx1
         try clear c2
         try clear c2b0
         try clear c2b1
         try clear p2
         try clear p6
         try clear c7
         try clear c7b0
         try clear c8
         try clear c8b0
         try clear c9
         try clear c9b0
         try clear c10
         try clear c10b0
         try clear c10b1
         try clear c11
         try clear c11b0
         try clear c11b1
         try clear c12
         try clear c12b0
         try clear p12
         try clear q12
         try clear hx12
         try clear c14
         try clear c14b0
         try clear c15
         try clear c15b0
         try clear c16
         try clear c16b0
         try clear c20
         try clear c20b0
         try clear c21
         try clear c21b0
         try clear c22
         try clear c22b0
         try clear c23
         try clear c23b0
         try clear c23b1
         try clear hcz17_0
         try clear hcz17_1
         try clear hcz17_2
         try clear hcz17_3
         try clear hcz18_0
         try clear hcz18_1
         try clear hcz18_2
         try clear hcz18_3
         try clear hcz19_0
         try clear hcz19_1
         try clear hcz19_2
         try clear hcz19_3
         try clear hcz24_0
         try clear hcz24_1
         try clear hcz24_2
         try clear hcz24_3
         try clear hcz4_0
         try clear hcz4_1
         try clear hcz4_2
         try clear hcz4_3
         try clear hcz6_0
         try clear hcz6_1
         try clear hcz6_2
         try clear hcz6_3
         try clear hfz17_0
         try clear hfz17_1
         try clear hfz17_2
         try clear hfz17_3
         try clear hfz18_0
         try clear hfz18_1
         try clear hfz18_2
         try clear hfz18_3
         try clear hfz19_0
         try clear hfz19_1
         try clear hfz19_2
         try clear hfz19_3
         try clear hfz24_0
         try clear hfz24_1
         try clear hfz24_2
         try clear hfz24_3
         try clear hfz4_0
         try clear hfz4_1
         try clear hfz4_2
         try clear hfz4_3
         try clear hfz6_0
         try clear hfz6_1
         try clear hfz6_2
         try clear hfz6_3
         try clear hx121_0
         try clear hx122_0
         try clear hx123_0
         try clear p1
         try clear p12
         try clear p121
         try clear p122
         try clear p123
         try clear p2
         try clear p6
         try clear q1
         try clear q12
         try clear q121
         try clear q122
         try clear q123
         try clear BK120; try clear HB
         obtain ⟨x58_3, rfl, HA, HK3, BK120, HB⟩ := hrel
         cases gk with
         | zero => exact absurd HA.out (by simp [peneloperef07_Stands.l2])
         | succ k3 =>
          have H := HA.out
          clear HA
          simp only [peneloperef07_Stands.l2] at H
          by_cases c25 : x58_3 < (l0_3.length : Int)
          ·
           rw [if_pos c25] at H
           have c25b0 : decide (x58_3 < (l0_3.length : Int)) = true := decide_eq_true c25
           clear c25
           by_cases c26 : 0 ≤ x58_3
           ·
            rw [if_pos c26] at H
            have c26b0 : decide (0 ≤ x58_3) = true := decide_eq_true c26
            clear c26
            by_cases c27 : x58_3 < (l0_3.length : Int)
            ·
             rw [if_pos c27] at H
             have c27b0 : decide (x58_3 < (l0_3.length : Int)) = true := decide_eq_true c27
             clear c27
             by_cases c28 : (rd l0_3 x58_3) < 10
             ·
              rw [if_pos c28] at H
              have c28b0 : decide ((rd l0_3 x58_3) < 10) = true := decide_eq_true c28
              clear c28
              obtain rfl := Option.some.inj H
              have p124 : 0 ≤ (x58_3 : Int) := of_decide_eq_true (by first | (with_reducible assumption) | assumption)
              have q124 : x58_3 < (l0_3.length : Int) := of_decide_eq_true (by first | (with_reducible assumption) | assumption)
              obtain ⟨ad124, e124, hx124_0⟩ := Kd.at_int HR0_3.out x58_3 p124 q124
              cases e124
              replace hx124_0 := (HB.out.cell (World.block_lt_of_cell? w _ hx124_0)).trans hx124_0
              replace p124 := eq_true p124
              replace q124 := eq_true q124
              go_wp2
              go_ret
              exact ⟨by first | rfl | (simp [errW_none, errW_some] <;> rfl) | (simp [*, errW_none, errW_some] <;> rfl), pB HB.out⟩
             ·
              rw [if_neg c28] at H
              have c28b0 : decide ((rd l0_3 x58_3) < 10) = false := decide_eq_false c28
              clear c28
              by_cases c29 : (rd l0_3 x58_3) > 2047
              ·
               rw [if_pos c29] at H
               have c29b0 : decide (2047 < (rd l0_3 x58_3)) = true := decide_eq_true c29
               clear c29
               obtain rfl := Option.some.inj H
               have p124 : 0 ≤ (x58_3 : Int) := of_decide_eq_true (by first | (with_reducible assumption) | assumption)
               have q124 : x58_3 < (l0_3.length : Int) := of_decide_eq_true (by first | (with_reducible assumption) | assumption)
               obtain ⟨ad124, e124, hx124_0⟩ := Kd.at_int HR0_3.out x58_3 p124 q124
               cases e124
               replace hx124_0 := (HB.out.cell (World.block_lt_of_cell? w _ hx124_0)).trans hx124_0
               replace p124 := eq_true p124
               replace q124 := eq_true q124
               go_wp2
               go_ret
               exact ⟨by first | rfl | (simp [errW_none, errW_some] <;> rfl) | (simp [*, errW_none, errW_some] <;> rfl), pB HB.out⟩
              ·
               rw [if_neg c29] at H
               have c29b0 : decide (2047 < (rd l0_3 x58_3)) = false := decide_eq_false c29
               clear c29
               have H' := am H
               clear H
               have p124 : 0 ≤ (x58_3 : Int) := of_decide_eq_true (by first | (with_reducible assumption) | assumption)
               have q124 : x58_3 < (l0_3.length : Int) := of_decide_eq_true (by first | (with_reducible assumption) | assumption)
               obtain ⟨ad124, e124, hx124_0⟩ := Kd.at_int HR0_3.out x58_3 p124 q124
               cases e124
               replace hx124_0 := (HB.out.cell (World.block_lt_of_cell? w _ hx124_0)).trans hx124_0
               replace p124 := eq_true p124
               replace q124 := eq_true q124
               go_wp2
               go_roundg k3
               case measure => have := HK1.out; have := HK2.out; have := HK3.out; omega
               case rel => exact ⟨(wrap64 (x58_3 + 1)), (by first | rfl | (simp; done) | (simp [*]; done)), H', ⟨by have := HK1.out; have := HK2.out; have := HK3.out; omega⟩, ⟨pk BK120.out⟩, ⟨pB HB.out⟩⟩
            ·
             rw [if_neg c27] at H
             exact absurd H (by simp)
           ·
            rw [if_neg c26] at H
            exact absurd H (by simp)
          ·
           rw [if_neg c25] at H
           have c25b0 : decide (x58_3 < (l0_3.length : Int)) = false := decide_eq_false c25
           clear c25
           by_cases c30 : a0_0 = true
           ·
            subst c30
            have H1 : (if (l0_2.length : Int) = (l0_1.length : Int) then (some ((l0_3.length : Int) == 0)) else (some false)) = some r := by rw [if_pos rfl] at H; exact H
            clear H
            have H := H1
            clear H1
            by_cases c31 : (l0_2.length : Int) = (l0_1.length : Int)
            ·
             rw [if_pos c31] at H
             have c31b0 : ((l0_2.length : Int) == (l0_1.length : Int)) = true := beq_iff_eq.mpr c31
             have c31b1 : ((l0_2.length : Int) != (l0_1.length : Int)) = false := bne_eq_false_iff_eq.mpr c31
             have c31b2 : (l0_2.length == l0_1.length) = true := by first | simpa using c31 | (simp at c31 ⊢; omega)
             clear c31
             obtain rfl := Option.some.inj H
             obtain ⟨hcz32_0, hcz32_1, hcz32_2, hcz32_3⟩ := c4 BK120.out
             obtain ⟨hfz32_0, hfz32_1, hfz32_2, hfz32_3⟩ := z4 BK120.out
             go_wp2
             go_ret
             exact ⟨by first | rfl | (simp [errW_none, errW_some] <;> rfl) | (simp [*, errW_none, errW_some] <;> rfl), pB HB.out⟩
            ·
             rw [if_neg c31] at H
             have c31b0 : ((l0_2.length : Int) == (l0_1.length : Int)) = false := beq_eq_false_iff_ne.mpr c31
             have c31b1 : ((l0_2.length : Int) != (l0_1.length : Int)) = true := bne_iff_ne.mpr c31
             have c31b2 : (l0_2.length == l0_1.length) = false := by first | simpa using c31 | (simp at c31 ⊢; omega)
             obtain rfl := Option.some.inj H
             obtain ⟨hcz33_0, hcz33_1, hcz33_2, hcz33_3⟩ := c4 BK120.out
             obtain ⟨hfz33_0, hfz33_1, hfz33_2, hfz33_3⟩ := z4 BK120.out
             go_wp2
             go_ret
             exact ⟨by first | rfl | (simp [errW_none, errW_some] <;> rfl) | (simp [*, errW_none, errW_some] <;> rfl), pB HB.out⟩
           ·
            replace c30 := Bool.eq_false_iff.mpr c30
            subst c30
            have H1 : (if (l0_2.length : Int) = 0 then (if (l0_1.length : Int) ≥ 1 then (some ((l0_3.length : Int) == (wrap64 ((l0_1.length : Int) + 1)))) else (some false)) else (some false)) = some r := by rw [if_neg (show ¬ (false = true) by decide)] at H; exact H
            clear H
            have H := H1
            clear H1
            by_cases c34 : (l0_2.length : Int) = 0
            ·
             rw [if_pos c34] at H
             have c34b0 : ((l0_2.length : Int) == 0) = true := beq_iff_eq.mpr c34
             have c34b1 : ((l0_2.length : Int) != 0) = false := bne_eq_false_iff_eq.mpr c34
             clear c34
             by_cases c35 : (l0_1.length : Int) ≥ 1
             ·
              rw [if_pos c35] at H
              have c35b0 : decide (1 ≤ (l0_1.length : Int)) = true := decide_eq_true c35
              have c35b1 : decide (1 ≤ l0_1.length) = true := decide_eq_true (by omega)
              clear c35
              obtain rfl := Option.some.inj H
              obtain ⟨hcz36_0, hcz36_1, hcz36_2, hcz36_3⟩ := c4 BK120.out
              obtain ⟨hfz36_0, hfz36_1, hfz36_2, hfz36_3⟩ := z4 BK120.out
              go_wp2
              go_ret
              exact ⟨by first | rfl | (simp [errW_none, errW_some] <;> rfl) | (simp [*, errW_none, errW_some] <;> rfl), pB HB.out⟩
             ·
              rw [if_neg c35] at H
              have c35b0 : decide (1 ≤ (l0_1.length : Int)) = false := decide_eq_false c35
              have c35b1 : decide (1 ≤ l0_1.length) = false := decide_eq_false (by omega)
              clear c35
              obtain rfl := Option.some.inj H
              obtain ⟨hcz37_0, hcz37_1, hcz37_2, hcz37_3⟩ := c4 BK120.out
              obtain ⟨hfz37_0, hfz37_1, hfz37_2, hfz37_3⟩ := z4 BK120.out
              go_wp2
              go_ret
              exact ⟨by first | rfl | (simp [errW_none, errW_some] <;> rfl) | (simp [*, errW_none, errW_some] <;> rfl), pB HB.out⟩
            ·
             rw [if_neg c34] at H
             have c34b0 : ((l0_2.length : Int) == 0) = false := beq_eq_false_iff_ne.mpr c34
             have c34b1 : ((l0_2.length : Int) != 0) = true := bne_iff_ne.mpr c34
             have c34b2 : ¬ (l0_2 = []) := fun h_ => c34 (by rw [h_]; rfl)
             obtain rfl := Option.some.inj H
             obtain ⟨hcz38_0, hcz38_1, hcz38_2, hcz38_3⟩ := c4 BK120.out
             obtain ⟨hfz38_0, hfz38_1, hfz38_2, hfz38_3⟩ := z4 BK120.out
             go_wp2
             go_ret
             exact ⟨by first | rfl | (simp [errW_none, errW_some] <;> rfl) | (simp [*, errW_none, errW_some] <;> rfl), pB HB.out⟩

end Go.Proofs.Ytmnkabdaapiikaa.C
