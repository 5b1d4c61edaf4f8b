-- laid by a program of this session (wip/tools/xprint.py), function by function; Lean checks it
import Derived.Test.YtmnkabdaapiikaaCx0
import Derived.Test.YtmnkabdaapiikaaSq
namespace Go.Proofs.Ytmnkabdaapiikaa.C
open Go.RowKit Go.Proofs.YtmnkabdaapiikaaW.PrintWords Go.Proofs.YtmnkabdaapiikaaW.PrintLast Go.Proofs.YtmnkabdaapiikaaW.PrintMore Go.Proofs.YtmnkabdaapiikaaW.Sq
attribute [local go_sem] max2_int min2_int max_two min_two max_three min_three max_four min_four   -- for this text's walks alone
set_option linter.unusedVariables false
set_option linter.unusedSimpArgs false

/-! ### penelopelaw07_few: function 10 -/
def penelopelaw07_few.f (a0_0 : Bool) (l0_1 : List ByteArray) (l0_2 : List ByteArray) (l0_3 : List Int) : Option (Bool × List ByteArray × List ByteArray × List Int) := if 0 ≤ (mn (l0_1.length : Int) 30) then (if (mn (l0_1.length : Int) 30) ≤ (l0_1.length : Int) then (if 0 ≤ (mn (l0_2.length : Int) 30) then (if (mn (l0_2.length : Int) 30) ≤ (l0_2.length : Int) then (if 0 ≤ (mn (l0_3.length : Int) 30) then (if (mn (l0_3.length : Int) 30) ≤ (l0_3.length : Int) then (some (a0_0, (l0_1.take ((mn (l0_1.length : Int) 30) : Int).toNat), (l0_2.take ((mn (l0_2.length : Int) 30) : Int).toNat), (l0_3.take ((mn (l0_3.length : Int) 30) : Int).toNat))) else (none)) else (none)) else (none)) else (none)) else (none)) else (none)
def penelopelaw07_few.T1 : Bool × List (List Nat × List Nat) := (true, [([], []), ([0], [0]), ([], []), ([2], [2]), ([3], [3]), ([4], [4]), ([1, 5], [1, 5]), ([], []), ([7], [7]), ([], []), ([9], [9]), ([10], [10]), ([11], [11]), ([8, 12], [8, 12]), ([], []), ([14], [14]), ([], []), ([16], [16]), ([17], [17]), ([18], [18]), ([15, 19], [15, 19]), ([0, 1, 2, 3, 4, 5, 6, 7, 8, 9, 10, 14, 15, 16, 17], []), ([21, 6, 0, 1, 2, 3, 4, 5, 6, 7, 8, 9, 10, 14, 15, 16, 17], [6, 21]), ([0, 1, 2, 3, 4, 5, 6, 7, 8, 9, 10, 11, 12, 13, 14, 15, 16, 17, 21, 22], []), ([23, 13, 22, 0, 1, 2, 3, 4, 5, 6, 7, 8, 9, 10, 11, 12, 13, 14, 15, 16, 17, 21, 22], [13, 23]), ([0, 1, 2, 3, 4, 5, 6, 7, 8, 9, 10, 11, 12, 13, 14, 15, 16, 17, 18, 19, 20, 21, 22, 23, 24], []), ([25, 20, 24, 0, 1, 2, 3, 4, 5, 6, 7, 8, 9, 10, 11, 12, 13, 14, 15, 16, 17, 18, 19, 20, 21, 22, 23, 24], [20, 25])])
def penelopelaw07_few.B1 : List Nat := [0, 1, 0, 4, 12, 28, 63, 0, 128, 0, 512, 1536, 3584, 8064, 0, 16384, 0, 65536, 196608, 458752, 1032192, 247807, 2344959, 6553599, 14942207, 33554431, 67108863]
theorem penelopelaw07_few.tab1 : rtab .any (opsOf Try.f10 1) = penelopelaw07_few.T1 := by kernel_rfl
theorem penelopelaw07_few.bits1 : waitsOk penelopelaw07_few.T1.2 penelopelaw07_few.B1 = true := by kernel_rfl
set_option maxHeartbeats 8000000 in
set_option maxRecDepth 100000 in
theorem penelopelaw07_few.calls (a0_0 : Bool) (P0_1_ : Nat → Prop) (A0_1 : Option Addr) (c0_1 : Nat) (l0_1 : List ByteArray) (P0_2_ : Nat → Prop) (A0_2 : Option Addr) (c0_2 : Nat) (l0_2 : List ByteArray) (P0_3_ : Nat → Prop) (A0_3 : Option Addr) (c0_3 : Nat) (l0_3 : List Int) (r1 : Bool) (r2 : List ByteArray) (r3 : List ByteArray) (r4 : List Int) (w : World) (hs0_1 : Kd.V Kd.string 9 w w.heap.size (fun k_ => P0_1_ k_) (.slice A0_1 l0_1.length c0_1) l0_1) (hs0_2 : Kd.V Kd.string 9 w w.heap.size (fun k_ => P0_2_ k_) (.slice A0_2 l0_2.length c0_2) l0_2) (hs0_3 : Kd.V (Kd.int .i64) 3 w w.heap.size (fun k_ => P0_3_ k_) (.slice A0_3 l0_3.length c0_3) l0_3) (h : penelopelaw07_few.f a0_0 l0_1 l0_2 l0_3 = some (r1, r2, r3, r4)) :
  Calls Try.prog 10 #[.agg #[.bool a0_0, .slice A0_1 l0_1.length c0_1, .slice A0_2 l0_2.length c0_2, .slice A0_3 l0_3.length c0_3]] w fun e w' => ∃ v1_ v2_ v3_ : Value, e = .returned (.agg #[.bool r1, v1_, v2_, v3_]) ∧ Kd.V Kd.string 9 w' w.heap.size (fun k_ => ((P0_1_ k_ ∨ P0_2_ k_ ∨ P0_3_ k_) ∨ w.heap.size ≤ k_)) v1_ r2 ∧ Kd.V Kd.string 9 w' w.heap.size (fun k_ => ((P0_1_ k_ ∨ P0_2_ k_ ∨ P0_3_ k_) ∨ w.heap.size ≤ k_)) v2_ r3 ∧ Kd.V (Kd.int .i64) 3 w' w.heap.size (fun k_ => ((P0_1_ k_ ∨ P0_2_ k_ ∨ P0_3_ k_) ∨ w.heap.size ≤ k_)) v3_ r4 ∧ Below w.heap.size w w' := by
 have hu25 := Try.underlying25
 have HO0_1 := am (show Kd.V Kd.string 9 w w.heap.size (fun k_ => ((P0_1_ k_ ∨ P0_2_ k_ ∨ P0_3_ k_) ∨ w.heap.size ≤ k_)) (.slice A0_1 l0_1.length c0_1) l0_1 from Kd.V_mono hs0_1 (fun k_ hk => .inl (.inl hk)))
 have HO0_2 := am (show Kd.V Kd.string 9 w w.heap.size (fun k_ => ((P0_1_ k_ ∨ P0_2_ k_ ∨ P0_3_ k_) ∨ w.heap.size ≤ k_)) (.slice A0_2 l0_2.length c0_2) l0_2 from Kd.V_mono hs0_2 (fun k_ hk => .inl (.inr (.inl hk))))
 have HO0_3 := am (show Kd.V (Kd.int .i64) 3 w w.heap.size (fun k_ => ((P0_1_ k_ ∨ P0_2_ k_ ∨ P0_3_ k_) ∨ w.heap.size ≤ k_)) (.slice A0_3 l0_3.length c0_3) l0_3 from Kd.V_mono hs0_3 (fun k_ hk => .inl (.inr (.inr hk))))
 have HB := am (Below.refl w.heap.size w)
 have H : (if 0 ≤ (mn (l0_1.length : Int) 30) then (if (mn (l0_1.length : Int) 30) ≤ (l0_1.length : Int) then (if 0 ≤ (mn (l0_2.length : Int) 30) then (if (mn (l0_2.length : Int) 30) ≤ (l0_2.length : Int) then (if 0 ≤ (mn (l0_3.length : Int) 30) then (if (mn (l0_3.length : Int) 30) ≤ (l0_3.length : Int) then (some (a0_0, (l0_1.take ((mn (l0_1.length : Int) 30) : Int).toNat), (l0_2.take ((mn (l0_2.length : Int) 30) : Int).toNat), (l0_3.take ((mn (l0_3.length : Int) 30) : Int).toNat))) else (none)) else (none)) else (none)) else (none)) else (none)) else (none)) = some (r1, r2, r3, r4) := h
 clear h
 obtain ⟨ji2, hji2⟩ : ∃ j_ : Int, (mn (l0_1.length : Int) 30) = j_ := ⟨_, rfl⟩
 replace H : (if 0 ≤ (ji2) then (if (ji2) ≤ (l0_1.length : Int) then (if 0 ≤ (mn (l0_2.length : Int) 30) then (if (mn (l0_2.length : Int) 30) ≤ (l0_2.length : Int) then (if 0 ≤ (mn (l0_3.length : Int) 30) then (if (mn (l0_3.length : Int) 30) ≤ (l0_3.length : Int) then (some (a0_0, (l0_1.take ((ji2) : Int).toNat), (l0_2.take ((mn (l0_2.length : Int) 30) : Int).toNat), (l0_3.take ((mn (l0_3.length : Int) 30) : Int).toNat))) else (none)) else (none)) else (none)) else (none)) else (none)) else (none)) = some (r1, r2, r3, r4) := by first | (rw [hji2] at H; exact H) | (simp only [hji2] at H ⊢; exact H)
 (try (have hji2h : ji2 ≤ 30 := by (rw [← hji2]; unfold mn; (repeat' split) <;> omega)))
 (try (have hji2g : ji2 ≤ 64 := by omega))
 (try (have hji2l : 0 ≤ ji2 := by (rw [← hji2]; unfold mn; (repeat' split) <;> omega)))
 (try (have hji2m : 0 ≤ ji2 := by omega))
 have hji2_ : (if 30 < (l0_1.length : Int) then 30 else (l0_1.length : Int)) = ji2 := hji2
 by_cases c3 : 0 ≤ (ji2)
 ·
  rw [if_pos c3] at H
  have c3b0 := eq_true c3
  have c3b1 : decide (0 ≤ (ji2)) = true := decide_eq_true c3
  clear c3
  by_cases c4 : (ji2) ≤ (l0_1.length : Int)
  ·
   rw [if_pos c4] at H
   have c4b0 := eq_true c4
   have c4b1 : decide ((ji2) ≤ (l0_1.length : Int)) = true := decide_eq_true c4
   clear c4
   obtain ⟨y103, hy103⟩ : ∃ y_ : List ByteArray, y_ = (l0_1.take ((ji2) : Int).toNat) := ⟨_, rfl⟩
   replace H : (if 0 ≤ (mn (l0_2.length : Int) 30) then (if (mn (l0_2.length : Int) 30) ≤ (l0_2.length : Int) then (if 0 ≤ (mn (l0_3.length : Int) 30) then (if (mn (l0_3.length : Int) 30) ≤ (l0_3.length : Int) then (some (a0_0, y103, (l0_2.take ((mn (l0_2.length : Int) 30) : Int).toNat), (l0_3.take ((mn (l0_3.length : Int) 30) : Int).toNat))) else (none)) else (none)) else (none)) else (none)) = some (r1, r2, r3, r4) := by first | (rw [hy103]; with_reducible exact H) | (have H2_ := (Option.bind_some _ _).symm.trans H; rw [hy103]; with_reducible exact H2_) | (have H2_ := (Option.bind_some _ _).symm.trans H; with_reducible exact H2_) | with_reducible exact H | (rw [hy103]; exact H) | exact H
   have Ny103 := am hy103
   clear hy103
   obtain ⟨ji5, hji5⟩ : ∃ j_ : Int, (mn (l0_2.length : Int) 30) = j_ := ⟨_, rfl⟩
   replace H : (if 0 ≤ (ji5) then (if (ji5) ≤ (l0_2.length : Int) then (if 0 ≤ (mn (l0_3.length : Int) 30) then (if (mn (l0_3.length : Int) 30) ≤ (l0_3.length : Int) then (some (a0_0, y103, (l0_2.take ((ji5) : Int).toNat), (l0_3.take ((mn (l0_3.length : Int) 30) : Int).toNat))) else (none)) else (none)) else (none)) else (none)) = some (r1, r2, r3, r4) := by first | (rw [hji5] at H; exact H) | (simp only [hji5] at H ⊢; exact H)
   (try (have hji5h : ji5 ≤ 30 := by (rw [← hji5]; unfold mn; (repeat' split) <;> omega)))
   (try (have hji5g : ji5 ≤ 64 := by omega))
   (try (have hji5l : 0 ≤ ji5 := by (rw [← hji5]; unfold mn; (repeat' split) <;> omega)))
   (try (have hji5m : 0 ≤ ji5 := by omega))
   have hji5_ : (if 30 < (l0_2.length : Int) then 30 else (l0_2.length : Int)) = ji5 := hji5
   by_cases c6 : 0 ≤ (ji5)
   ·
    rw [if_pos c6] at H
    have c6b0 := eq_true c6
    have c6b1 : decide (0 ≤ (ji5)) = true := decide_eq_true c6
    clear c6
    by_cases c7 : (ji5) ≤ (l0_2.length : Int)
    ·
     rw [if_pos c7] at H
     have c7b0 := eq_true c7
     have c7b1 : decide ((ji5) ≤ (l0_2.length : Int)) = true := decide_eq_true c7
     clear c7
     obtain ⟨y108, hy108⟩ : ∃ y_ : List ByteArray, y_ = (l0_2.take ((ji5) : Int).toNat) := ⟨_, rfl⟩
     replace H : (if 0 ≤ (mn (l0_3.length : Int) 30) then (if (mn (l0_3.length : Int) 30) ≤ (l0_3.length : Int) then (some (a0_0, y103, y108, (l0_3.take ((mn (l0_3.length : Int) 30) : Int).toNat))) else (none)) else (none)) = some (r1, r2, r3, r4) := by first | (rw [hy108]; with_reducible exact H) | (have H2_ := (Option.bind_some _ _).symm.trans H; rw [hy108]; with_reducible exact H2_) | (have H2_ := (Option.bind_some _ _).symm.trans H; with_reducible exact H2_) | with_reducible exact H | (rw [hy108]; exact H) | exact H
     have Ny108 := am hy108
     clear hy108
     obtain ⟨ji8, hji8⟩ : ∃ j_ : Int, (mn (l0_3.length : Int) 30) = j_ := ⟨_, rfl⟩
     replace H : (if 0 ≤ (ji8) then (if (ji8) ≤ (l0_3.length : Int) then (some (a0_0, y103, y108, (l0_3.take ((ji8) : Int).toNat))) else (none)) else (none)) = some (r1, r2, r3, r4) := by first | (rw [hji8] at H; exact H) | (simp only [hji8] at H ⊢; exact H)
     (try (have hji8h : ji8 ≤ 30 := by (rw [← hji8]; unfold mn; (repeat' split) <;> omega)))
     (try (have hji8g : ji8 ≤ 64 := by omega))
     (try (have hji8l : 0 ≤ ji8 := by (rw [← hji8]; unfold mn; (repeat' split) <;> omega)))
     (try (have hji8m : 0 ≤ ji8 := by omega))
     have hji8_ : (if 30 < (l0_3.length : Int) then 30 else (l0_3.length : Int)) = ji8 := hji8
     by_cases c9 : 0 ≤ (ji8)
     ·
      rw [if_pos c9] at H
      have c9b0 := eq_true c9
      have c9b1 : decide (0 ≤ (ji8)) = true := decide_eq_true c9
      clear c9
      by_cases c10 : (ji8) ≤ (l0_3.length : Int)
      ·
       rw [if_pos c10] at H
       have c10b0 := eq_true c10
       have c10b1 : decide ((ji8) ≤ (l0_3.length : Int)) = true := decide_eq_true c10
       clear c10
       obtain ⟨y113, hy113⟩ : ∃ y_ : List Int, y_ = (l0_3.take ((ji8) : Int).toNat) := ⟨_, rfl⟩
       replace H : (some (a0_0, y103, y108, y113)) = some (r1, r2, r3, r4) := by first | (rw [hy113]; with_reducible exact H) | (have H2_ := (Option.bind_some _ _).symm.trans H; rw [hy113]; with_reducible exact H2_) | (have H2_ := (Option.bind_some _ _).symm.trans H; with_reducible exact H2_) | with_reducible exact H | (rw [hy113]; exact H) | exact H
       have Ny113 := am hy113
       clear hy113
       simp only [Option.some.injEq, Prod.mk.injEq] at H
       obtain ⟨rfl, rfl, rfl, rfl⟩ := H
       go_enter Try.func10, Try.ntmps10
       try go_wp2_with (first | ((with_reducible refine gate_dst (N := 1) rfl ?_); refine bx 1 #[.bool a0_0, .slice A0_1 l0_1.length c0_1, .slice A0_2 l0_2.length c0_2, .slice A0_3 l0_3.length c0_3] 25 ?_; intro gb101 hg w11 hbox hb; replace HO0_1 := am (Kd.V_below (Kd.V_elderB (pV HO0_1.out) gb101 (Nat.le_of_eq hg.symm)) hb); replace HO0_2 := am (Kd.V_below (Kd.V_elderB (pV HO0_2.out) gb101 (Nat.le_of_eq hg.symm)) hb); replace HO0_3 := am (Kd.V_below (Kd.V_elderB (pV HO0_3.out) gb101 (Nat.le_of_eq hg.symm)) hb); have BK101 := am (hbox); have GW101 := am (gs hg (pB HB.out)); have GE101 := am (gs hg (pB HB.out)); replace HB := am (below_step (pB HB.out) hb); clear hb hbox hg) | ((with_reducible refine gate_dst (N := 2) rfl ?_); refine bx 2 #[.bool false, .slice none 0 0, .slice none 0 0, .slice none 0 0] 25 ?_; intro gb102 hg w12 hbox hb; replace HO0_1 := am (Kd.V_below (Kd.V_elderB (pV HO0_1.out) gb102 (Nat.le_of_eq hg.symm)) hb); replace HO0_2 := am (Kd.V_below (Kd.V_elderB (pV HO0_2.out) gb102 (Nat.le_of_eq hg.symm)) hb); replace HO0_3 := am (Kd.V_below (Kd.V_elderB (pV HO0_3.out) gb102 (Nat.le_of_eq hg.symm)) hb); have BK102 := am (hbox); have GW102 := am (gs hg (pB HB.out)); have GE102 := am (gs hg (pB HB.out)); replace HB := am (below_step (pB HB.out) hb); have NB101_102 := am (nl hg (pk BK101.out)); have NB102_101 := am (ng hg (pk BK101.out)); replace BK101 := am (blk_below (pk BK101.out) hb); clear hb hbox hg))
       replace HO0_1 := am (Kd.V_drew HO0_1.out)
       replace HO0_2 := am (Kd.V_drew HO0_2.out)
       replace HO0_3 := am (Kd.V_drew HO0_3.out)
       replace BK101 := am (blk_drew BK101.out)
       replace BK102 := am (blk_drew BK102.out)
       replace HB := am (below_drew1 HB.out)
       have q14 : ((ji2) : Int) ≤ ((l0_1.length : Int) : Int) := of_decide_eq_true (by first | (with_reducible assumption) | assumption)
       obtain ⟨i014, hi014, _, hsz14, _⟩ := info_parts info9
       have hroom14 : l0_1.length ≤ c0_1 := (Kd.V_reads' HO0_1.out).2.1
       have hC14 : Kd.F Kd.string _ _ A0_1 l0_1.length l0_1 := (Kd.V_at (base := w.heap.size) HO0_1.out).2.2
       have hcut14 := cut_to (P := Try.prog) 22 9 .i64 Try.underlying22 hi014 A0_1 l0_1.length c0_1 (ji2) (of_decide_eq_true (by first | (with_reducible assumption) | assumption)) q14 hroom14
       have hr14 := Kd.F_take (m := ((ji2) : Int).toNat) hC14 (by omega)
       have hy14 : y103.length = ((ji2) : Int).toNat := (by rw [Ny103.out, List.length_take]; omega)
       rw [← Ny103.out] at hr14
       rw [← hy14] at hcut14
       have HO107 := am (show Kd.V Kd.string 9 _ w.heap.size _ (.slice A0_1 y103.length c0_1) y103 from Kd.V_mk (by omega) hr14)
       have HC107 := am (show y103.length ≤ c0_1 from by omega)
       clear hr14 hC14 hroom14 hi014 hsz14
       have KY14 := am hy14
       clear hy14
       replace q14 := eq_true q14
       have q15 : ((ji5) : Int) ≤ ((l0_2.length : Int) : Int) := of_decide_eq_true (by first | (with_reducible assumption) | assumption)
       obtain ⟨i015, hi015, _, hsz15, _⟩ := info_parts info9
       have hroom15 : l0_2.length ≤ c0_2 := (Kd.V_reads' HO0_2.out).2.1
       have hC15 : Kd.F Kd.string _ _ A0_2 l0_2.length l0_2 := (Kd.V_at (base := w.heap.size) HO0_2.out).2.2
       have hcut15 := cut_to (P := Try.prog) 22 9 .i64 Try.underlying22 hi015 A0_2 l0_2.length c0_2 (ji5) (of_decide_eq_true (by first | (with_reducible assumption) | assumption)) q15 hroom15
       have hr15 := Kd.F_take (m := ((ji5) : Int).toNat) hC15 (by omega)
       have hy15 : y108.length = ((ji5) : Int).toNat := (by rw [Ny108.out, List.length_take]; omega)
       rw [← Ny108.out] at hr15
       rw [← hy15] at hcut15
       have HO112 := am (show Kd.V Kd.string 9 _ w.heap.size _ (.slice A0_2 y108.length c0_2) y108 from Kd.V_mk (by omega) hr15)
       have HC112 := am (show y108.length ≤ c0_2 from by omega)
       clear hr15 hC15 hroom15 hi015 hsz15
       have KY15 := am hy15
       clear hy15
       replace q15 := eq_true q15
       have q16 : ((ji8) : Int) ≤ ((l0_3.length : Int) : Int) := of_decide_eq_true (by first | (with_reducible assumption) | assumption)
       obtain ⟨i016, hi016, _, hsz16, _⟩ := info_parts info3
       have hroom16 : l0_3.length ≤ c0_3 := (Kd.V_reads' HO0_3.out).2.1
       have hC16 : Kd.F (Kd.int .i64) _ _ A0_3 l0_3.length l0_3 := (Kd.V_at (base := w.heap.size) HO0_3.out).2.2
       have hcut16 := cut_to (P := Try.prog) 23 3 .i64 Try.underlying23 hi016 A0_3 l0_3.length c0_3 (ji8) (of_decide_eq_true (by first | (with_reducible assumption) | assumption)) q16 hroom16
       have hr16 := Kd.F_take (m := ((ji8) : Int).toNat) hC16 (by omega)
       have hy16 : y113.length = ((ji8) : Int).toNat := (by rw [Ny113.out, List.length_take]; omega)
       rw [← Ny113.out] at hr16
       rw [← hy16] at hcut16
       have HO117 := am (show Kd.V (Kd.int .i64) 3 _ w.heap.size _ (.slice A0_3 y113.length c0_3) y113 from Kd.V_mk (by omega) hr16)
       have HC117 := am (show y113.length ≤ c0_3 from by omega)
       clear hr16 hC16 hroom16 hi016 hsz16
       have KY16 := am hy16
       clear hy16
       replace q16 := eq_true q16
       refine start_ (n := 27) (S := fun w' => w'.cell? ⟨gb101, 0, none⟩ = some (.bool a0_0) ∧ w'.cell? ⟨gb101, 1, none⟩ = some (.slice A0_1 l0_1.length c0_1) ∧ w'.cell? ⟨gb101, 2, none⟩ = some (.slice A0_2 l0_2.length c0_2) ∧ w'.cell? ⟨gb101, 3, none⟩ = some (.slice A0_3 l0_3.length c0_3)) (ds := [22, 24, 26]) (ba 27 0) (by kernel_rfl) rfl rfl ⟨bc BK101.out, bc BK101.out, bc BK101.out, bc BK101.out⟩ (fun hHeld => ?_); refine with_tabW penelopelaw07_few.tab1 penelopelaw07_few.bits1 (fun HT_ HW_ => ?_)
       generalize w12.drew = w13 at HO0_1 HO0_2 HO0_3 BK101 BK102 HB HO107 HO112 HO117 hHeld ⊢
       refine pu 0 3 (ba 27 1) HT_ ?_
       refine pu 2 5 (ba 27 5) HT_ ?_
       refine pu 7 10 (ba 27 133) HT_ ?_
       refine pu 9 12 (ba 27 645) HT_ ?_
       refine pu 14 17 (ba 27 17029) HT_ ?_
       refine pu 16 19 (ba 27 82565) HT_ ?_
       refine tk 1 4 (ba 27 82567) HT_ HW_ hHeld ?_
       refine tk 3 6 (ba 27 82575) HT_ HW_ hHeld ?_
       refine pu 4 7 (ba 27 82591) HT_ ?_
       refine pu 5 8 (ba 27 82623) HT_ ?_
       refine pu 6 9 (ba 27 82687) HT_ ?_
       refine tk 8 11 (ba 27 82943) HT_ HW_ hHeld ?_
       refine tk 10 13 (ba 27 83967) HT_ HW_ hHeld ?_
       refine pu 11 14 (ba 27 86015) HT_ ?_
       refine pu 12 15 (ba 27 90111) HT_ ?_
       refine pu 13 16 (ba 27 98303) HT_ ?_
       refine tk 15 18 (ba 27 131071) HT_ HW_ hHeld ?_
       refine tk 17 20 (ba 27 262143) HT_ HW_ hHeld ?_
       refine pu 18 21 (ba 27 524287) HT_ ?_
       refine pu 19 22 (ba 27 1048575) HT_ ?_
       refine pu 20 23 (ba 27 2097151) HT_ ?_
       refine pu 21 24 (ba 27 4194303) HT_ ?_
       refine last_ (i := 22) (N := none) (ba 27 8388607) rfl rfl (one_of HT_.out (by kernel_rfl)) (by decide) (fun K hK => ?_)
       have hs17 : w13.cell? ⟨gb101, 1, none⟩ = some (.slice A0_1 l0_1.length c0_1) := bc BK101.out
       have hfs17 := blk_frozen BK101.out 1
       have hns17_1 := NB102_101.out
       have hms17_1 := NB101_102.out
       refine skip_ (w1 := ?_) (by rfl) rfl ?_ ?_
       rotate_left
       ·
        go_simp
        rfl
       refine hK.out _ _ ?_
       clear hK K
       refine pu 23 25 (ba 27 16777215) HT_ ?_
       refine last_ (i := 24) (N := none) (ba 27 33554431) rfl rfl (one_of HT_.out (by kernel_rfl)) (by decide) (fun K hK => ?_)
       have hs18 : w13.cell? ⟨gb101, 2, none⟩ = some (.slice A0_2 l0_2.length c0_2) := bc BK101.out
       have hfs18 := blk_frozen BK101.out 2
       have hns18_1 := NB102_101.out
       have hms18_1 := NB101_102.out
       refine skip_ (w1 := ?_) (by rfl) rfl ?_ ?_
       rotate_left
       ·
        go_simp
        rfl
       refine hK.out _ _ ?_
       clear hK K
       refine pu 25 26 (ba 27 67108863) HT_ ?_
       refine last_ (i := 26) (N := none) (ba 27 134217727) rfl rfl (one_of HT_.out (by kernel_rfl)) (by decide) (fun K hK => ?_)
       have hs19 : w13.cell? ⟨gb101, 3, none⟩ = some (.slice A0_3 l0_3.length c0_3) := bc BK101.out
       have hfs19 := blk_frozen BK101.out 3
       have hns19_1 := NB102_101.out
       have hms19_1 := NB101_102.out
       refine skip_ (w1 := ?_) (by rfl) rfl ?_ ?_
       rotate_left
       ·
        go_simp
        rfl
       refine hK.out _ _ ?_
       clear hK K
       refine done_ (done_of HT_.out (by kernel_rfl)) ?_
       have hnb20 := NB101_102.out
       have hnc20 := NB102_101.out
       obtain ⟨hcz21_0, hcz21_1, hcz21_2, hcz21_3⟩ := c4 BK101.out
       obtain ⟨hfz21_0, hfz21_1, hfz21_2, hfz21_3⟩ := z4 BK101.out
       obtain ⟨hcz22_0, hcz22_1, hcz22_2, hcz22_3⟩ := c4 BK102.out
       obtain ⟨hfz22_0, hfz22_1, hfz22_2, hfz22_3⟩ := z4 BK102.out
       try go_wp2
       refine bodyPost_ret (results_cell_row rfl _ _ gb102 25 #[.bool a0_0, .slice A0_1 y103.length c0_1, .slice A0_2 y108.length c0_2, .slice A0_3 y113.length c0_3] (0, 0) _ rfl (pP BK102.out) Try.underlying25 rfl (by kernel_rfl)) rfl ?_
       exact ⟨_, _, _, by first | rfl | (simp [errW_none, errW_some] <;> rfl) | (simp only [← hji2, ← hji5, ← hji8]; first | rfl | (simp [errW_none, errW_some] <;> rfl)) | (simp [*, errW_none, errW_some] <;> rfl), by exact Kd.V_mono (pV HO107.out) (fun _ hk => hk.1.1), by exact Kd.V_mono (pV HO112.out) (fun _ hk => hk.1.1), by exact Kd.V_mono (pV HO117.out) (fun _ hk => hk.1.1), pB HB.out⟩
      ·
       rw [if_neg c10] at H
       exact absurd H (by simp)
     ·
      rw [if_neg c9] at H
      exact absurd H (by simp)
    ·
     rw [if_neg c7] at H
     exact absurd H (by simp)
   ·
    rw [if_neg c6] at H
    exact absurd H (by simp)
  ·
   rw [if_neg c4] at H
   exact absurd H (by simp)
 ·
  rw [if_neg c3] at H
  exact absurd H (by simp)

end Go.Proofs.Ytmnkabdaapiikaa.C
