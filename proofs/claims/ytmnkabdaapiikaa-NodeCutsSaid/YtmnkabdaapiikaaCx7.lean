-- laid by a program of this session (wip/tools/xprint.py), function by function; Lean checks it
import Derived.Test.YtmnkabdaapiikaaCx0
import Derived.Test.YtmnkabdaapiikaaSq
namespace Go.Proofs.Ytmnkabdaapiikaa.C
open Go.RowKit Go.Proofs.YtmnkabdaapiikaaW.PrintWords Go.Proofs.YtmnkabdaapiikaaW.PrintLast Go.Proofs.YtmnkabdaapiikaaW.PrintMore Go.Proofs.YtmnkabdaapiikaaW.Sq
attribute [local go_sem] max2_int min2_int max_two min_two max_three min_three max_four min_four   -- for this text's walks alone
set_option linter.unusedVariables false
set_option linter.unusedSimpArgs false

/-! ### peneloperef07_Cut: function 25 -/
mutual
def peneloperef07_Cut.l0 : Nat → List ByteArray → Int → Int → Bool → List ByteArray → List ByteArray → List Int → Bool → List ByteArray → Bool → List ByteArray → Option (Bool × List ByteArray × List ByteArray × List Int × ByteArray × Bool × List ByteArray × List ByteArray × List Int)
 | 0, _, _, _, _, _, _, _, _, _, _, _ => none
 | k + 1, x20, x21, x22, x178000, x178001, x178002, x178003, x181000, x181001, x182000, x182001 => if x22 < x21 then (if 0 ≤ x22 then (if x22 < (x20.length : Int) then (if x22 < 4 then (if x181001.length < 8796093022208 then (peneloperef07_Cut.l0 k x20 x21 (wrap64 (x22 + 1)) x178000 x178001 x178002 x178003 x181000 (x181001 ++ [rdOf ByteArray.empty x20 x22]) x182000 x182001) else (none)) else (if x22 > 4 then (if x182001.length < 8796093022208 then (peneloperef07_Cut.l0 k x20 x21 (wrap64 (x22 + 1)) x178000 x178001 x178002 x178003 x181000 x181001 x182000 (x182001 ++ [rdOf ByteArray.empty x20 x22])) else (none)) else (if x178000 = true then (if x182001.length < 8796093022208 then (peneloperef07_Cut.l0 k x20 x21 (wrap64 (x22 + 1)) x178000 x178001 x178002 x178003 x181000 x181001 x182000 (x182001 ++ [rdOf ByteArray.empty x20 x22])) else (none)) else (peneloperef07_Cut.l0 k x20 x21 (wrap64 (x22 + 1)) x178000 x178001 x178002 x178003 x181000 x181001 x182000 x182001)))) else (none)) else (none)) else (peneloperef07_Cut.l1 k x178002 (x178002.length : Int) 0 x178000 x178001 x178002 x178003 x181000 x181001 ([] : List ByteArray) x182000 x182001 ([] : List ByteArray))
def peneloperef07_Cut.l1 : Nat → List ByteArray → Int → Int → Bool → List ByteArray → List ByteArray → List Int → Bool → List ByteArray → List ByteArray → Bool → List ByteArray → List ByteArray → Option (Bool × List ByteArray × List ByteArray × List Int × ByteArray × Bool × List ByteArray × List ByteArray × List Int)
 | 0, _, _, _, _, _, _, _, _, _, _, _, _, _ => none
 | k + 1, x49, x50, x51, x178000, x178001, x178002, x178003, x181000, x181001, x181002, x182000, x182001, x182002 => if x51 < x50 then (if 0 ≤ x51 then (if x51 < (x49.length : Int) then (if x51 < 4 then (if x181002.length < 8796093022208 then (peneloperef07_Cut.l1 k x49 x50 (wrap64 (x51 + 1)) x178000 x178001 x178002 x178003 x181000 x181001 (x181002 ++ [rdOf ByteArray.empty x49 x51]) x182000 x182001 x182002) else (none)) else (if x182002.length < 8796093022208 then (peneloperef07_Cut.l1 k x49 x50 (wrap64 (x51 + 1)) x178000 x178001 x178002 x178003 x181000 x181001 x181002 x182000 x182001 (x182002 ++ [rdOf ByteArray.empty x49 x51])) else (none))) else (none)) else (none)) else (peneloperef07_Cut.l2 k x178003 (x178003.length : Int) 0 x178000 x178001 x178002 x178003 x181000 x181001 x181002 ([] : List Int) x182000 x182001 x182002 ([] : List Int))
def peneloperef07_Cut.l2 : Nat → List Int → Int → Int → Bool → List ByteArray → List ByteArray → List Int → Bool → List ByteArray → List ByteArray → List Int → Bool → List ByteArray → List ByteArray → List Int → Option (Bool × List ByteArray × List ByteArray × List Int × ByteArray × Bool × List ByteArray × List ByteArray × List Int)
 | 0, _, _, _, _, _, _, _, _, _, _, _, _, _, _, _ => none
 | k + 1, x72, x73, x74, x178000, x178001, x178002, x178003, x181000, x181001, x181002, x181003, x182000, x182001, x182002, x182003 => if x74 < x73 then (if 0 ≤ x74 then (if x74 < (x72.length : Int) then (if x74 < 5 then (if x181003.length < 17592186044416 then (peneloperef07_Cut.l2 k x72 x73 (wrap64 (x74 + 1)) x178000 x178001 x178002 x178003 x181000 x181001 x181002 (x181003 ++ [rd x72 x74]) x182000 x182001 x182002 x182003) else (none)) else (if x182003.length < 17592186044416 then (peneloperef07_Cut.l2 k x72 x73 (wrap64 (x74 + 1)) x178000 x178001 x178002 x178003 x181000 x181001 x181002 x181003 x182000 x182001 x182002 (x182003 ++ [rd x72 x74])) else (none))) else (none)) else (none)) else (if 4 < (x178001.length : Int) then (some (x181000, x181001, x181002, x181003, rdOf ByteArray.empty x178001 4, x182000, x182001, x182002, x182003)) else (none))
end
def peneloperef07_Cut.f (k : Nat) (a0_0 : Bool) (l0_1 : List ByteArray) (l0_2 : List ByteArray) (l0_3 : List Int) : Option (Bool × List ByteArray × List ByteArray × List Int × ByteArray × Bool × List ByteArray × List ByteArray × List Int) := peneloperef07_Cut.l0 k l0_1 (l0_1.length : Int) 0 a0_0 l0_1 l0_2 l0_3 a0_0 ([] : List ByteArray) a0_0 ([] : List ByteArray)
theorem peneloperef07_Cut.mono_l : ∀ k, (∀ y0 y1 y2 y3 y4 y5 y6 y7 y8 y9 y10, LeO (peneloperef07_Cut.l0 k y0 y1 y2 y3 y4 y5 y6 y7 y8 y9 y10) (peneloperef07_Cut.l0 (k + 1) y0 y1 y2 y3 y4 y5 y6 y7 y8 y9 y10)) ∧ (∀ y0 y1 y2 y3 y4 y5 y6 y7 y8 y9 y10 y11 y12, LeO (peneloperef07_Cut.l1 k y0 y1 y2 y3 y4 y5 y6 y7 y8 y9 y10 y11 y12) (peneloperef07_Cut.l1 (k + 1) y0 y1 y2 y3 y4 y5 y6 y7 y8 y9 y10 y11 y12)) ∧ (∀ y0 y1 y2 y3 y4 y5 y6 y7 y8 y9 y10 y11 y12 y13 y14, LeO (peneloperef07_Cut.l2 k y0 y1 y2 y3 y4 y5 y6 y7 y8 y9 y10 y11 y12 y13 y14) (peneloperef07_Cut.l2 (k + 1) y0 y1 y2 y3 y4 y5 y6 y7 y8 y9 y10 y11 y12 y13 y14))
 | 0 => ⟨fun _ _ _ _ _ _ _ _ _ _ _ r h => by simp [peneloperef07_Cut.l0] at h, fun _ _ _ _ _ _ _ _ _ _ _ _ _ r h => by simp [peneloperef07_Cut.l1] at h, fun _ _ _ _ _ _ _ _ _ _ _ _ _ _ _ r h => by simp [peneloperef07_Cut.l2] at h⟩
 | k + 1 => by
  obtain ⟨ih0, ih1, ih2⟩ := peneloperef07_Cut.mono_l k
  refine ⟨?_, ?_, ?_⟩
  ·
   intro y0 y1 y2 y3 y4 y5 y6 y7 y8 y9 y10
   unfold peneloperef07_Cut.l0
   repeat' first
   | (with_reducible exact ih0 _ _ _ _ _ _ _ _ _ _ _)
   | (with_reducible exact ih1 _ _ _ _ _ _ _ _ _ _ _ _ _)
   | (with_reducible exact ih2 _ _ _ _ _ _ _ _ _ _ _ _ _ _ _)
   | (with_reducible exact LeO.refl _)
   | (with_reducible exact LeO.none _)
   | (with_reducible refine LeO.ite ?_ ?_)
   | (with_reducible refine LeO.bind ?_ (fun _ => ?_))
   | exact ih0 _ _ _ _ _ _ _ _ _ _ _
   | exact ih1 _ _ _ _ _ _ _ _ _ _ _ _ _
   | exact ih2 _ _ _ _ _ _ _ _ _ _ _ _ _ _ _
   | exact LeO.none _
   | refine LeO.ite ?_ ?_
   | refine LeO.bind ?_ (fun _ => ?_)
  ·
   intro y0 y1 y2 y3 y4 y5 y6 y7 y8 y9 y10 y11 y12
   unfold peneloperef07_Cut.l1
   repeat' first
   | (with_reducible exact ih0 _ _ _ _ _ _ _ _ _ _ _)
   | (with_reducible exact ih1 _ _ _ _ _ _ _ _ _ _ _ _ _)
   | (with_reducible exact ih2 _ _ _ _ _ _ _ _ _ _ _ _ _ _ _)
   | (with_reducible exact LeO.refl _)
   | (with_reducible exact LeO.none _)
   | (with_reducible refine LeO.ite ?_ ?_)
   | (with_reducible refine LeO.bind ?_ (fun _ => ?_))
   | exact ih0 _ _ _ _ _ _ _ _ _ _ _
   | exact ih1 _ _ _ _ _ _ _ _ _ _ _ _ _
   | exact ih2 _ _ _ _ _ _ _ _ _ _ _ _ _ _ _
   | exact LeO.none _
   | refine LeO.ite ?_ ?_
   | refine LeO.bind ?_ (fun _ => ?_)
  ·
   intro y0 y1 y2 y3 y4 y5 y6 y7 y8 y9 y10 y11 y12 y13 y14
   unfold peneloperef07_Cut.l2
   repeat' first
   | (with_reducible exact ih0 _ _ _ _ _ _ _ _ _ _ _)
   | (with_reducible exact ih1 _ _ _ _ _ _ _ _ _ _ _ _ _)
   | (with_reducible exact ih2 _ _ _ _ _ _ _ _ _ _ _ _ _ _ _)
   | (with_reducible exact LeO.refl _)
   | (with_reducible exact LeO.none _)
   | (with_reducible refine LeO.ite ?_ ?_)
   | (with_reducible refine LeO.bind ?_ (fun _ => ?_))
   | exact ih0 _ _ _ _ _ _ _ _ _ _ _
   | exact ih1 _ _ _ _ _ _ _ _ _ _ _ _ _
   | exact ih2 _ _ _ _ _ _ _ _ _ _ _ _ _ _ _
   | exact LeO.none _
   | refine LeO.ite ?_ ?_
   | refine LeO.bind ?_ (fun _ => ?_)
theorem peneloperef07_Cut.mono : ∀ a0 a1 a2 a3 k, LeO (peneloperef07_Cut.f k a0 a1 a2 a3) (peneloperef07_Cut.f (k + 1) a0 a1 a2 a3) := by
 intro a0 a1 a2 a3 k
 obtain ⟨ih0, ih1, ih2⟩ := peneloperef07_Cut.mono_l k
 unfold peneloperef07_Cut.f
 repeat' first
   | (with_reducible exact ih0 _ _ _ _ _ _ _ _ _ _ _)
   | (with_reducible exact ih1 _ _ _ _ _ _ _ _ _ _ _ _ _)
   | (with_reducible exact ih2 _ _ _ _ _ _ _ _ _ _ _ _ _ _ _)
   | (with_reducible exact LeO.refl _)
   | (with_reducible exact LeO.none _)
   | (with_reducible refine LeO.ite ?_ ?_)
   | (with_reducible refine LeO.bind ?_ (fun _ => ?_))
   | exact ih0 _ _ _ _ _ _ _ _ _ _ _
   | exact ih1 _ _ _ _ _ _ _ _ _ _ _ _ _
   | exact ih2 _ _ _ _ _ _ _ _ _ _ _ _ _ _ _
   | exact LeO.none _
   | refine LeO.ite ?_ ?_
   | refine LeO.bind ?_ (fun _ => ?_)
def peneloperef07_Cut.T25 : Bool × List (List Nat × List Nat) := (true, [([], []), ([], []), ([1], [1]), ([2], [2]), ([3], [3]), ([], []), ([0, 0], [0]), ([4, 6, 0, 1, 2, 3, 4, 6], [4]), ([5, 7, 0, 1, 2, 3, 4, 5, 6, 7], [5])])
def peneloperef07_Cut.B25 : List Nat := [0, 0, 2, 6, 14, 0, 1, 95, 255]
theorem peneloperef07_Cut.tab25 : rtab .any (opsOf Try.f25 25) = peneloperef07_Cut.T25 := by kernel_rfl
theorem peneloperef07_Cut.bits25 : waitsOk peneloperef07_Cut.T25.2 peneloperef07_Cut.B25 = true := by kernel_rfl
set_option maxHeartbeats 8000000 in
set_option maxRecDepth 100000 in
theorem peneloperef07_Cut.calls (k : Nat) (a0_0 : Bool) (A0_1 : Option Addr) (c0_1 : Nat) (l0_1 : List ByteArray) (A0_2 : Option Addr) (c0_2 : Nat) (l0_2 : List ByteArray) (A0_3 : Option Addr) (c0_3 : Nat) (l0_3 : List Int) (r1 : Bool) (r2 : List ByteArray) (r3 : List ByteArray) (r4 : List Int) (r5 : ByteArray) (r6 : Bool) (r7 : List ByteArray) (r8 : List ByteArray) (r9 : List Int) (w : World) (hr0_1 : Kd.C Kd.string w A0_1 l0_1.length l0_1) (hc0_1 : l0_1.length ≤ c0_1) (hr0_2 : Kd.C Kd.string w A0_2 l0_2.length l0_2) (hc0_2 : l0_2.length ≤ c0_2) (hr0_3 : Kd.C (Kd.int .i64) w A0_3 l0_3.length l0_3) (hc0_3 : l0_3.length ≤ c0_3) (h : peneloperef07_Cut.f k a0_0 l0_1 l0_2 l0_3 = some (r1, r2, r3, r4, r5, r6, r7, r8, r9)) :
  Calls Try.prog 25 #[.agg #[.bool a0_0, .slice A0_1 l0_1.length c0_1, .slice A0_2 l0_2.length c0_2, .slice A0_3 l0_3.length c0_3]] w fun e w' => ∃ v1_ v2_ v3_ v6_ v7_ v8_ : Value, e = .returned (.tuple #[.agg #[.bool r1, v1_, v2_, v3_], .string r5, .agg #[.bool r6, v6_, v7_, v8_]]) ∧ Kd.R Kd.string 9 w' w.heap.size (fun k_ => some k_ ≠ (v2_ : Value).ownBlock ∧ some k_ ≠ (v6_ : Value).ownBlock ∧ some k_ ≠ (v7_ : Value).ownBlock) v1_ r2 ∧ Kd.R Kd.string 9 w' w.heap.size (fun k_ => some k_ ≠ (v1_ : Value).ownBlock ∧ some k_ ≠ (v6_ : Value).ownBlock ∧ some k_ ≠ (v7_ : Value).ownBlock) v2_ r3 ∧ Kd.R (Kd.int .i64) 3 w' w.heap.size (fun k_ => some k_ ≠ (v8_ : Value).ownBlock) v3_ r4 ∧ Kd.R Kd.string 9 w' w.heap.size (fun k_ => some k_ ≠ (v1_ : Value).ownBlock ∧ some k_ ≠ (v2_ : Value).ownBlock ∧ some k_ ≠ (v7_ : Value).ownBlock) v6_ r7 ∧ Kd.R Kd.string 9 w' w.heap.size (fun k_ => some k_ ≠ (v1_ : Value).ownBlock ∧ some k_ ≠ (v2_ : Value).ownBlock ∧ some k_ ≠ (v6_ : Value).ownBlock) v7_ r8 ∧ Kd.R (Kd.int .i64) 3 w' w.heap.size (fun k_ => some k_ ≠ (v3_ : Value).ownBlock) v8_ r9 ∧ Below w.heap.size w w' := by
 have hu25 := Try.underlying25
 have HR0_1 := am hr0_1
 have HC0_1 := am hc0_1
 clear hr0_1 hc0_1
 have HR0_2 := am hr0_2
 have HC0_2 := am hc0_2
 clear hr0_2 hc0_2
 have HR0_3 := am hr0_3
 have HC0_3 := am hc0_3
 clear hr0_3 hc0_3
 have HB := am (Below.refl w.heap.size w)
 have H : (peneloperef07_Cut.l0 k l0_1 (l0_1.length : Int) 0 a0_0 l0_1 l0_2 l0_3 a0_0 ([] : List ByteArray) a0_0 ([] : List ByteArray)) = some (r1, r2, r3, r4, r5, r6, r7, r8, r9) := h
 clear h
 have H' := am H
 clear H
 go_enter Try.func25, Try.ntmps25
 go_wp2_with (first | ((with_reducible refine gate_dst (N := 1) rfl ?_); refine bx 1 #[.bool a0_0, .slice A0_1 l0_1.length c0_1, .slice A0_2 l0_2.length c0_2, .slice A0_3 l0_3.length c0_3] 25 ?_; intro gb177 hg w2 hbox hb; have BK177 := am (hbox); have GW177 := am (gs hg (pB HB.out)); have GE177 := am (gs hg (pB HB.out)); replace HB := am (below_step (pB HB.out) hb); clear hb hbox hg) | ((with_reducible refine gate_dst (N := 2) rfl ?_); refine bx 2 #[.bool false, .slice none 0 0, .slice none 0 0, .slice none 0 0] 25 ?_; intro gb178 hg w3 hbox hb; have BK178 := am (hbox); have GW178 := am (gs hg (pB HB.out)); have GE178 := am (gs hg (pB HB.out)); replace HB := am (below_step (pB HB.out) hb); have NB177_178 := am (nl hg (pk BK177.out)); have NB178_177 := am (ng hg (pk BK177.out)); replace BK177 := am (blk_below (pk BK177.out) hb); clear hb hbox hg) | ((with_reducible refine gate_dst (N := 4) rfl ?_); refine bx 4 #[.bool false, .slice none 0 0, .slice none 0 0, .slice none 0 0] 25 ?_; intro gb179 hg w4 hbox hb; have BK179 := am (hbox); have GW179 := am (gs hg (pB HB.out)); have GE179 := am (gs hg (pB HB.out)); replace HB := am (below_step (pB HB.out) hb); have NB177_179 := am (nl hg (pk BK177.out)); have NB179_177 := am (ng hg (pk BK177.out)); replace BK177 := am (blk_below (pk BK177.out) hb); have NB178_179 := am (nl hg (pk BK178.out)); have NB179_178 := am (ng hg (pk BK178.out)); replace BK178 := am (blk_below (pk BK178.out) hb); clear hb hbox hg; have hnb5 := NB177_178.out; have hnc5 := NB178_177.out; have hnb6 := NB177_179.out; have hnc6 := NB179_177.out; obtain ⟨hcz7_0, hcz7_1, hcz7_2, hcz7_3⟩ := c4 BK177.out; obtain ⟨hfz7_0, hfz7_1, hfz7_2, hfz7_3⟩ := z4 BK177.out) | ((with_reducible refine gate_dst (N := 5) rfl ?_); refine bx 5 #[.bool false, .slice none 0 0, .slice none 0 0, .slice none 0 0] 25 ?_; intro gb180 hg w8 hbox hb; have BK180 := am (hbox); have GW180 := am (gs hg (pB HB.out)); have GE180 := am (gs hg (pB HB.out)); replace HB := am (below_step (pB HB.out) hb); have NB177_180 := am (nl hg (pk BK177.out)); have NB180_177 := am (ng hg (pk BK177.out)); replace BK177 := am (blk_below (pk BK177.out) hb); have NB178_180 := am (nl hg (pk BK178.out)); have NB180_178 := am (ng hg (pk BK178.out)); replace BK178 := am (blk_below (pk BK178.out) hb); have NB179_180 := am (nl hg (pk BK179.out)); have NB180_179 := am (ng hg (pk BK179.out)); replace BK179 := am (blk_below (pk BK179.out) hb); clear hb hbox hg; have hnb9 := NB180_177.out; have hnc9 := NB177_180.out; have hnb10 := NB180_178.out; have hnc10 := NB178_180.out; have hnb11 := NB180_179.out; have hnc11 := NB179_180.out; obtain ⟨hcz12_0, hcz12_1, hcz12_2, hcz12_3⟩ := c4 BK180.out; obtain ⟨hfz12_0, hfz12_1, hfz12_2, hfz12_3⟩ := z4 BK180.out; obtain ⟨hcz13_0, hcz13_1, hcz13_2, hcz13_3⟩ := c4 BK177.out; obtain ⟨hfz13_0, hfz13_1, hfz13_2, hfz13_3⟩ := z4 BK177.out) | ((with_reducible refine gate_dst (N := 6) rfl ?_); refine bx 6 #[.bool false, .slice none 0 0, .slice none 0 0, .slice none 0 0] 25 ?_; intro gb181 hg w14 hbox hb; have BK181 := am (hbox); have GW181 := am (gs hg (pB HB.out)); have GE181 := am (gs hg (pB HB.out)); replace HB := am (below_step (pB HB.out) hb); have NB177_181 := am (nl hg (pk BK177.out)); have NB181_177 := am (ng hg (pk BK177.out)); replace BK177 := am (blk_below (pk BK177.out) hb); have NB178_181 := am (nl hg (pk BK178.out)); have NB181_178 := am (ng hg (pk BK178.out)); replace BK178 := am (blk_below (pk BK178.out) hb); have NB179_181 := am (nl hg (pk BK179.out)); have NB181_179 := am (ng hg (pk BK179.out)); replace BK179 := am (blk_below (pk BK179.out) hb); have NB180_181 := am ((by rw [hg]; exact Nat.ne_of_lt (blk_lt (g := gb180) (o := .cells #[.bool a0_0, .slice none 0 0, .slice none 0 0, .slice none 0 0] 25 (0, 0)) (pP BK180.out)) : gb180 ≠ gb181)); have NB181_180 := am ((by rw [hg]; exact Nat.ne_of_gt (blk_lt (g := gb180) (o := .cells #[.bool a0_0, .slice none 0 0, .slice none 0 0, .slice none 0 0] 25 (0, 0)) (pP BK180.out)) : gb181 ≠ gb180)); replace BK180 := am (blk_below (g := gb180) (o := .cells #[.bool a0_0, .slice none 0 0, .slice none 0 0, .slice none 0 0] 25 (0, 0)) (pP BK180.out) hb); clear hb hbox hg; have hnb15 := NB181_177.out; have hnc15 := NB177_181.out; have hnb16 := NB181_178.out; have hnc16 := NB178_181.out; have hnb17 := NB181_179.out; have hnc17 := NB179_181.out; have hnb18 := NB181_180.out; have hnc18 := NB180_181.out; obtain ⟨hcz19_0, hcz19_1, hcz19_2, hcz19_3⟩ := c4 BK181.out; obtain ⟨hfz19_0, hfz19_1, hfz19_2, hfz19_3⟩ := z4 BK181.out; obtain ⟨hcz20_0, hcz20_1, hcz20_2, hcz20_3⟩ := c4 BK177.out; obtain ⟨hfz20_0, hfz20_1, hfz20_2, hfz20_3⟩ := z4 BK177.out))
 go_loopg [22] k (fun kq v22 w' => ∃ (x22_1 : Int) (x181001_1 : List ByteArray) (x182001_1 : List ByteArray) (u181001 : Value) (u182001 : Value), v22 = .int .i64 x22_1 ∧ Aside0 (peneloperef07_Cut.l0 kq l0_1 (l0_1.length : Int) x22_1 a0_0 l0_1 l0_2 l0_3 a0_0 x181001_1 a0_0 x182001_1 = some (r1, r2, r3, r4, r5, r6, r7, r8, r9)) ∧ Aside0 (kq ≤ k) ∧ Aside0 (Kd.R Kd.string 9 w' w.heap.size (fun k_ => some k_ ≠ (u182001 : Value).ownBlock) u181001 x181001_1) ∧ Aside0 (Kd.R Kd.string 9 w' w.heap.size (fun k_ => some k_ ≠ (u181001 : Value).ownBlock) u182001 x182001_1) ∧ Aside0 (w'.heap[gb177]? = some (.cells #[.bool a0_0, (.slice A0_1 l0_1.length c0_1), (.slice A0_2 l0_2.length c0_2), (.slice A0_3 l0_3.length c0_3)] 25 (0, 0))) ∧ Aside0 (w'.heap[gb178]? = some (.cells #[.bool false, (.slice none 0 0), (.slice none 0 0), (.slice none 0 0)] 25 (0, 0))) ∧ Aside0 (w'.heap[gb179]? = some (.cells #[.bool false, (.slice none 0 0), (.slice none 0 0), (.slice none 0 0)] 25 (0, 0))) ∧ Aside0 (w'.heap[gb180]? = some (.cells #[.bool a0_0, u181001, (.slice none 0 0), (.slice none 0 0)] 25 (0, 0))) ∧ Aside0 (w'.heap[gb181]? = some (.cells #[.bool a0_0, u182001, (.slice none 0 0), (.slice none 0 0)] 25 (0, 0))) ∧ Aside0 (Below w.heap.size w w'))
 case atStart => exact ⟨(0), (([] : List ByteArray)), (([] : List ByteArray)), (.slice none 0 0), (.slice none 0 0), (by first | rfl | (simp; done) | (simp [*]; done)), H', ⟨Nat.le_refl _⟩, ⟨by first | exact Kd.R_nil _ _ _ _ _ | exact Kd.N_nil _ _ _ _ _ | exact Kd.V_nil _ _ _ _ _ | exact Kd.Q_nil _ _ _ _ _ | exact Kd.S_nil _ _ _ _ _⟩, ⟨by first | exact Kd.R_nil _ _ _ _ _ | exact Kd.N_nil _ _ _ _ _ | exact Kd.V_nil _ _ _ _ _ | exact Kd.Q_nil _ _ _ _ _ | exact Kd.S_nil _ _ _ _ _⟩, ⟨pk BK177.out⟩, ⟨pk BK178.out⟩, ⟨pk BK179.out⟩, ⟨pk BK180.out⟩, ⟨pP BK181.out⟩, ⟨pB HB.out⟩⟩
 case round =>
  clear H'
  try clear c1
  try clear c2
  try clear p2
  try clear c5
  try clear c6
  try clear c9
  try clear c10
  try clear c11
  try clear c15
  try clear c16
  try clear c17
  try clear c18
  try clear hcz12_0
  try clear hcz12_1
  try clear hcz12_2
  try clear hcz12_3
  try clear hcz13_0
  try clear hcz13_1
  try clear hcz13_2
  try clear hcz13_3
  try clear hcz19_0
  try clear hcz19_1
  try clear hcz19_2
  try clear hcz19_3
  try clear hcz20_0
  try clear hcz20_1
  try clear hcz20_2
  try clear hcz20_3
  try clear hcz7_0
  try clear hcz7_1
  try clear hcz7_2
  try clear hcz7_3
  try clear hfz12_0
  try clear hfz12_1
  try clear hfz12_2
  try clear hfz12_3
  try clear hfz13_0
  try clear hfz13_1
  try clear hfz13_2
  try clear hfz13_3
  try clear hfz19_0
  try clear hfz19_1
  try clear hfz19_2
  try clear hfz19_3
  try clear hfz20_0
  try clear hfz20_1
  try clear hfz20_2
  try clear hfz20_3
  try clear hfz7_0
  try clear hfz7_1
  try clear hfz7_2
  try clear hfz7_3
  try clear BK177; try clear BK178; try clear BK179; try clear BK180; try clear BK181; try clear HB
  obtain ⟨x22_1, x181001_1, x182001_1, u181001, u182001, rfl, HA, HK1, HO_181001, HO_182001, BK177, BK178, BK179, BK180, BK181, HB⟩ := hrel
  cases gk with
  | zero => exact absurd HA.out (by simp [peneloperef07_Cut.l0])
  | succ k1 =>
   have H := HA.out
   clear HA
   simp only [peneloperef07_Cut.l0] at H
   by_cases c21 : x22_1 < (l0_1.length : Int)
   ·
    rw [if_pos c21] at H
    have c21b0 : decide (x22_1 < (l0_1.length : Int)) = true := decide_eq_true c21
    clear c21
    by_cases c22 : 0 ≤ x22_1
    ·
     rw [if_pos c22] at H
     have c22b0 : decide (0 ≤ x22_1) = true := decide_eq_true c22
     clear c22
     by_cases c23 : x22_1 < (l0_1.length : Int)
     ·
      rw [if_pos c23] at H
      have c23b0 : decide (x22_1 < (l0_1.length : Int)) = true := decide_eq_true c23
      clear c23
      by_cases c24 : x22_1 < 4
      ·
       rw [if_pos c24] at H
       have c24b0 : decide (x22_1 < 4) = true := decide_eq_true c24
       clear c24
       by_cases c25 : x181001_1.length < 8796093022208
       ·
        rw [if_pos c25] at H
        have LMc25 := am c25
        clear c25
        obtain ⟨y183, hy183⟩ : ∃ y_ : List ByteArray, y_ = (x181001_1 ++ [rdOf ByteArray.empty l0_1 x22_1]) := ⟨_, rfl⟩
        replace H : (peneloperef07_Cut.l0 k1 l0_1 (l0_1.length : Int) (wrap64 (x22_1 + 1)) a0_0 l0_1 l0_2 l0_3 a0_0 y183 a0_0 x182001_1) = some (r1, r2, r3, r4, r5, r6, r7, r8, r9) := by first | (rw [hy183]; with_reducible exact H) | (have H2_ := (Option.bind_some _ _).symm.trans H; rw [hy183]; with_reducible exact H2_) | (have H2_ := (Option.bind_some _ _).symm.trans H; with_reducible exact H2_) | with_reducible exact H | (rw [hy183]; exact H) | exact H
        have Ny183 := am hy183
        clear hy183
        have H' := am H
        clear H
        have p182 : 0 ≤ (x22_1 : Int) := of_decide_eq_true (by first | (with_reducible assumption) | assumption)
        have q182 : x22_1 < (l0_1.length : Int) := of_decide_eq_true (by first | (with_reducible assumption) | assumption)
        obtain ⟨ad182, e182, hx182_0⟩ := Kd.at_string HR0_1.out x22_1 p182 q182
        cases e182
        replace hx182_0 := (HB.out.cell (World.block_lt_of_cell? w _ hx182_0)).trans hx182_0
        replace p182 := eq_true p182
        replace q182 := eq_true q182
        have hnb26 := NB180_177.out
        have hnc26 := NB177_180.out
        have hnb27 := NB180_178.out
        have hnc27 := NB178_180.out
        have hnb28 := NB180_179.out
        have hnc28 := NB179_180.out
        have hnb29 := NB180_181.out
        have hnc29 := NB181_180.out
        obtain ⟨hcz30_0, hcz30_1, hcz30_2, hcz30_3⟩ := c4 BK180.out
        obtain ⟨hfz30_0, hfz30_1, hfz30_2, hfz30_3⟩ := z4 BK180.out
        go_wp2_with (first | ((with_reducible refine gate_builtin (b := .append) (xs := #[.tmp 30, .tmp 32]) rfl ?_); at_builtin; refine Kd.R_append Kd.string (w0 := w) w.heap.size rfl (.tmp 30) (.tmp 32) 22 9 (.string ⟨#[]⟩) 16 rfl Try.underlying22 info9 rfl (by decide) (by omega) u181001 x181001_1 (rdOf ByteArray.empty l0_1 x22_1) [.string (rdOf ByteArray.empty l0_1 x22_1)] (fun k_ => some k_ ≠ (u182001 : Value).ownBlock) (fun _ => False) rfl rfl ?aP (fun _ hk => hk.elim) ?aF ?aO ?aB ?aS ?aL ?_; (case aP => exact rfl); (case aB => exact (pB HB.out)); (case aF => exact (fun k_ hk => Kd.fresh' (Kd.R_lt (pR HO_182001.out)) k_ hk)); (case aO => exact (pR HO_181001.out)); (case aS => exact (below_size (pB HB.out))); (case aL => have := LMc25.out; omega); intro v184 w31 ho hb hg hat; rw [← Ny183.out] at ho; replace HO_182001 := am (Kd.R_after (ok := (fun _ => True)) (by exact Kd.R_mono (pR HO_182001.out) (fun _ hk => ⟨trivial, hk⟩)) hg hat); replace BK177 := am (blk_grown (pk BK177.out) hg (Kd.R_ne HO_181001.out BK177.out (by decide))); replace BK178 := am (blk_grown (pk BK178.out) hg (Kd.R_ne HO_181001.out BK178.out (by decide))); replace BK179 := am (blk_grown (pk BK179.out) hg (Kd.R_ne HO_181001.out BK179.out (by decide))); replace BK180 := am (blk_grown (pk BK180.out) hg (Kd.R_ne HO_181001.out BK180.out (by decide))); replace BK181 := am (blk_grown (pk BK181.out) hg (Kd.R_ne HO_181001.out BK181.out (by decide))); replace HB := am (hb); have HO185 := am (ho); clear HO_181001 ho hb hg hat; obtain ⟨Ao32, co32, eo32⟩ := Kd.R_slice HO185.out; subst eo32; obtain ⟨hcz33_0, hcz33_1, hcz33_2, hcz33_3⟩ := c4 BK180.out; obtain ⟨hfz33_0, hfz33_1, hfz33_2, hfz33_3⟩ := z4 BK180.out))
        go_roundg k1
        case measure => have := HK1.out; omega
        case rel => exact ⟨(wrap64 (x22_1 + 1)), (y183), (x182001_1), (.slice Ao32 y183.length co32), (u182001), (by first | rfl | (simp; done) | (simp [*]; done)), H', ⟨by have := HK1.out; omega⟩, ⟨by exact Kd.R_mono (pR (Kd.R_types HO185.out BK180.out (by decide))) (fun _ hk => hk.1)⟩, ⟨by exact Kd.R_mono (pR (Kd.R_types HO_182001.out BK180.out (by decide))) (fun _ hk => hk.1.2)⟩, ⟨pk BK177.out⟩, ⟨pk BK178.out⟩, ⟨pk BK179.out⟩, ⟨pP BK180.out⟩, ⟨pk BK181.out⟩, ⟨pB HB.out⟩⟩
       ·
        rw [if_neg c25] at H
        exact absurd H (by simp)
      ·
       rw [if_neg c24] at H
       have c24b0 : decide (x22_1 < 4) = false := decide_eq_false c24
       clear c24
       by_cases c34 : x22_1 > 4
       ·
        rw [if_pos c34] at H
        have c34b0 : decide (4 < x22_1) = true := decide_eq_true c34
        clear c34
        by_cases c35 : x182001_1.length < 8796093022208
        ·
         rw [if_pos c35] at H
         have LMc35 := am c35
         clear c35
         obtain ⟨y186, hy186⟩ : ∃ y_ : List ByteArray, y_ = (x182001_1 ++ [rdOf ByteArray.empty l0_1 x22_1]) := ⟨_, rfl⟩
         replace H : (peneloperef07_Cut.l0 k1 l0_1 (l0_1.length : Int) (wrap64 (x22_1 + 1)) a0_0 l0_1 l0_2 l0_3 a0_0 x181001_1 a0_0 y186) = some (r1, r2, r3, r4, r5, r6, r7, r8, r9) := by first | (rw [hy186]; with_reducible exact H) | (have H2_ := (Option.bind_some _ _).symm.trans H; rw [hy186]; with_reducible exact H2_) | (have H2_ := (Option.bind_some _ _).symm.trans H; with_reducible exact H2_) | with_reducible exact H | (rw [hy186]; exact H) | exact H
         have Ny186 := am hy186
         clear hy186
         have H' := am H
         clear H
         have p182 : 0 ≤ (x22_1 : Int) := of_decide_eq_true (by first | (with_reducible assumption) | assumption)
         have q182 : x22_1 < (l0_1.length : Int) := of_decide_eq_true (by first | (with_reducible assumption) | assumption)
         obtain ⟨ad182, e182, hx182_0⟩ := Kd.at_string HR0_1.out x22_1 p182 q182
         cases e182
         replace hx182_0 := (HB.out.cell (World.block_lt_of_cell? w _ hx182_0)).trans hx182_0
         replace p182 := eq_true p182
         replace q182 := eq_true q182
         have hnb36 := NB181_177.out
         have hnc36 := NB177_181.out
         have hnb37 := NB181_178.out
         have hnc37 := NB178_181.out
         have hnb38 := NB181_179.out
         have hnc38 := NB179_181.out
         have hnb39 := NB181_180.out
         have hnc39 := NB180_181.out
         obtain ⟨hcz40_0, hcz40_1, hcz40_2, hcz40_3⟩ := c4 BK181.out
         obtain ⟨hfz40_0, hfz40_1, hfz40_2, hfz40_3⟩ := z4 BK181.out
         go_wp2_with (first | ((with_reducible refine gate_builtin (b := .append) (xs := #[.tmp 42, .tmp 44]) rfl ?_); at_builtin; refine Kd.R_append Kd.string (w0 := w) w.heap.size rfl (.tmp 42) (.tmp 44) 22 9 (.string ⟨#[]⟩) 16 rfl Try.underlying22 info9 rfl (by decide) (by omega) u182001 x182001_1 (rdOf ByteArray.empty l0_1 x22_1) [.string (rdOf ByteArray.empty l0_1 x22_1)] (fun k_ => some k_ ≠ (u181001 : Value).ownBlock) (fun _ => False) rfl rfl ?aP (fun _ hk => hk.elim) ?aF ?aO ?aB ?aS ?aL ?_; (case aP => exact rfl); (case aB => exact (pB HB.out)); (case aF => exact (fun k_ hk => Kd.fresh' (Kd.R_lt (pR HO_181001.out)) k_ hk)); (case aO => exact (pR HO_182001.out)); (case aS => exact (below_size (pB HB.out))); (case aL => have := LMc35.out; omega); intro v187 w41 ho hb hg hat; rw [← Ny186.out] at ho; replace HO_181001 := am (Kd.R_after (ok := (fun _ => True)) (by exact Kd.R_mono (pR HO_181001.out) (fun _ hk => ⟨trivial, hk⟩)) hg hat); replace BK177 := am (blk_grown (pk BK177.out) hg (Kd.R_ne HO_182001.out BK177.out (by decide))); replace BK178 := am (blk_grown (pk BK178.out) hg (Kd.R_ne HO_182001.out BK178.out (by decide))); replace BK179 := am (blk_grown (pk BK179.out) hg (Kd.R_ne HO_182001.out BK179.out (by decide))); replace BK180 := am (blk_grown (pk BK180.out) hg (Kd.R_ne HO_182001.out BK180.out (by decide))); replace BK181 := am (blk_grown (pk BK181.out) hg (Kd.R_ne HO_182001.out BK181.out (by decide))); replace HB := am (hb); have HO188 := am (ho); clear HO_182001 ho hb hg hat; obtain ⟨Ao42, co42, eo42⟩ := Kd.R_slice HO188.out; subst eo42; obtain ⟨hcz43_0, hcz43_1, hcz43_2, hcz43_3⟩ := c4 BK181.out; obtain ⟨hfz43_0, hfz43_1, hfz43_2, hfz43_3⟩ := z4 BK181.out))
         go_roundg k1
         case measure => have := HK1.out; omega
         case rel => exact ⟨(wrap64 (x22_1 + 1)), (x181001_1), (y186), (u181001), (.slice Ao42 y186.length co42), (by first | rfl | (simp; done) | (simp [*]; done)), H', ⟨by have := HK1.out; omega⟩, ⟨by exact Kd.R_mono (pR (Kd.R_types HO_181001.out BK181.out (by decide))) (fun _ hk => hk.1.2)⟩, ⟨by exact Kd.R_mono (pR (Kd.R_types HO188.out BK181.out (by decide))) (fun _ hk => hk.1)⟩, ⟨pk BK177.out⟩, ⟨pk BK178.out⟩, ⟨pk BK179.out⟩, ⟨pk BK180.out⟩, ⟨pP BK181.out⟩, ⟨pB HB.out⟩⟩
        ·
         rw [if_neg c35] at H
         exact absurd H (by simp)
       ·
        rw [if_neg c34] at H
        have c34b0 : decide (4 < x22_1) = false := decide_eq_false c34
        clear c34
        by_cases c44 : a0_0 = true
        ·
         subst c44
         have H1 : (if x182001_1.length < 8796093022208 then (peneloperef07_Cut.l0 k1 l0_1 (l0_1.length : Int) (wrap64 (x22_1 + 1)) true l0_1 l0_2 l0_3 true x181001_1 true (x182001_1 ++ [rdOf ByteArray.empty l0_1 x22_1])) else (none)) = some (r1, r2, r3, r4, r5, r6, r7, r8, r9) := by rw [if_pos rfl] at H; exact H
         clear H
         have H := H1
         clear H1
         by_cases c45 : x182001_1.length < 8796093022208
         ·
          rw [if_pos c45] at H
          have LMc45 := am c45
          clear c45
          obtain ⟨y189, hy189⟩ : ∃ y_ : List ByteArray, y_ = (x182001_1 ++ [rdOf ByteArray.empty l0_1 x22_1]) := ⟨_, rfl⟩
          replace H : (peneloperef07_Cut.l0 k1 l0_1 (l0_1.length : Int) (wrap64 (x22_1 + 1)) true l0_1 l0_2 l0_3 true x181001_1 true y189) = some (r1, r2, r3, r4, r5, r6, r7, r8, r9) := by first | (rw [hy189]; with_reducible exact H) | (have H2_ := (Option.bind_some _ _).symm.trans H; rw [hy189]; with_reducible exact H2_) | (have H2_ := (Option.bind_some _ _).symm.trans H; with_reducible exact H2_) | with_reducible exact H | (rw [hy189]; exact H) | exact H
          have Ny189 := am hy189
          clear hy189
          have H' := am H
          clear H
          have p182 : 0 ≤ (x22_1 : Int) := of_decide_eq_true (by first | (with_reducible assumption) | assumption)
          have q182 : x22_1 < (l0_1.length : Int) := of_decide_eq_true (by first | (with_reducible assumption) | assumption)
          obtain ⟨ad182, e182, hx182_0⟩ := Kd.at_string HR0_1.out x22_1 p182 q182
          cases e182
          replace hx182_0 := (HB.out.cell (World.block_lt_of_cell? w _ hx182_0)).trans hx182_0
          replace p182 := eq_true p182
          replace q182 := eq_true q182
          have hnb46 := NB177_178.out
          have hnc46 := NB178_177.out
          have hnb47 := NB177_179.out
          have hnc47 := NB179_177.out
          have hnb48 := NB177_180.out
          have hnc48 := NB180_177.out
          have hnb49 := NB177_181.out
          have hnc49 := NB181_177.out
          obtain ⟨hcz50_0, hcz50_1, hcz50_2, hcz50_3⟩ := c4 BK177.out
          obtain ⟨hfz50_0, hfz50_1, hfz50_2, hfz50_3⟩ := z4 BK177.out
          have hnb51 := NB181_178.out
          have hnc51 := NB178_181.out
          have hnb52 := NB181_179.out
          have hnc52 := NB179_181.out
          have hnb53 := NB181_180.out
          have hnc53 := NB180_181.out
          obtain ⟨hcz54_0, hcz54_1, hcz54_2, hcz54_3⟩ := c4 BK181.out
          obtain ⟨hfz54_0, hfz54_1, hfz54_2, hfz54_3⟩ := z4 BK181.out
          go_wp2_with (first | ((with_reducible refine gate_builtin (b := .append) (xs := #[.tmp 42, .tmp 44]) rfl ?_); at_builtin; refine Kd.R_append Kd.string (w0 := w) w.heap.size rfl (.tmp 42) (.tmp 44) 22 9 (.string ⟨#[]⟩) 16 rfl Try.underlying22 info9 rfl (by decide) (by omega) u182001 x182001_1 (rdOf ByteArray.empty l0_1 x22_1) [.string (rdOf ByteArray.empty l0_1 x22_1)] (fun k_ => some k_ ≠ (u181001 : Value).ownBlock) (fun _ => False) rfl rfl ?aP (fun _ hk => hk.elim) ?aF ?aO ?aB ?aS ?aL ?_; (case aP => exact rfl); (case aB => exact (pB HB.out)); (case aF => exact (fun k_ hk => Kd.fresh' (Kd.R_lt (pR HO_181001.out)) k_ hk)); (case aO => exact (pR HO_182001.out)); (case aS => exact (below_size (pB HB.out))); (case aL => have := LMc45.out; omega); intro v190 w55 ho hb hg hat; rw [← Ny189.out] at ho; replace HO_181001 := am (Kd.R_after (ok := (fun _ => True)) (by exact Kd.R_mono (pR HO_181001.out) (fun _ hk => ⟨trivial, hk⟩)) hg hat); replace BK177 := am (blk_grown (pk BK177.out) hg (Kd.R_ne HO_182001.out BK177.out (by decide))); replace BK178 := am (blk_grown (pk BK178.out) hg (Kd.R_ne HO_182001.out BK178.out (by decide))); replace BK179 := am (blk_grown (pk BK179.out) hg (Kd.R_ne HO_182001.out BK179.out (by decide))); replace BK180 := am (blk_grown (pk BK180.out) hg (Kd.R_ne HO_182001.out BK180.out (by decide))); replace BK181 := am (blk_grown (pk BK181.out) hg (Kd.R_ne HO_182001.out BK181.out (by decide))); replace HB := am (hb); have HO191 := am (ho); clear HO_182001 ho hb hg hat; obtain ⟨Ao56, co56, eo56⟩ := Kd.R_slice HO191.out; subst eo56; obtain ⟨hcz57_0, hcz57_1, hcz57_2, hcz57_3⟩ := c4 BK181.out; obtain ⟨hfz57_0, hfz57_1, hfz57_2, hfz57_3⟩ := z4 BK181.out))
          go_roundg k1
          case measure => have := HK1.out; omega
          case rel => exact ⟨(wrap64 (x22_1 + 1)), (x181001_1), (y189), (u181001), (.slice Ao56 y189.length co56), (by first | rfl | (simp; done) | (simp [*]; done)), H', ⟨by have := HK1.out; omega⟩, ⟨by exact Kd.R_mono (pR (Kd.R_types HO_181001.out BK181.out (by decide))) (fun _ hk => hk.1.2)⟩, ⟨by exact Kd.R_mono (pR (Kd.R_types HO191.out BK181.out (by decide))) (fun _ hk => hk.1)⟩, ⟨pk BK177.out⟩, ⟨pk BK178.out⟩, ⟨pk BK179.out⟩, ⟨pk BK180.out⟩, ⟨pP BK181.out⟩, ⟨pB HB.out⟩⟩
         ·
          rw [if_neg c45] at H
          exact absurd H (by simp)
        ·
         replace c44 := Bool.eq_false_iff.mpr c44
         subst c44
         have H1 : (peneloperef07_Cut.l0 k1 l0_1 (l0_1.length : Int) (wrap64 (x22_1 + 1)) false l0_1 l0_2 l0_3 false x181001_1 false x182001_1) = some (r1, r2, r3, r4, r5, r6, r7, r8, r9) := by rw [if_neg (show ¬ (false = true) by decide)] at H; exact H
         clear H
         have H := H1
         clear H1
         have H' := am H
         clear H
         have p182 : 0 ≤ (x22_1 : Int) := of_decide_eq_true (by first | (with_reducible assumption) | assumption)
         have q182 : x22_1 < (l0_1.length : Int) := of_decide_eq_true (by first | (with_reducible assumption) | assumption)
         obtain ⟨ad182, e182, hx182_0⟩ := Kd.at_string HR0_1.out x22_1 p182 q182
         cases e182
         replace hx182_0 := (HB.out.cell (World.block_lt_of_cell? w _ hx182_0)).trans hx182_0
         replace p182 := eq_true p182
         replace q182 := eq_true q182
         have hnb58 := NB177_178.out
         have hnc58 := NB178_177.out
         have hnb59 := NB177_179.out
         have hnc59 := NB179_177.out
         have hnb60 := NB177_180.out
         have hnc60 := NB180_177.out
         have hnb61 := NB177_181.out
         have hnc61 := NB181_177.out
         obtain ⟨hcz62_0, hcz62_1, hcz62_2, hcz62_3⟩ := c4 BK177.out
         obtain ⟨hfz62_0, hfz62_1, hfz62_2, hfz62_3⟩ := z4 BK177.out
         go_wp2
         go_roundg k1
         case measure => have := HK1.out; omega
         case rel => exact ⟨(wrap64 (x22_1 + 1)), (x181001_1), (x182001_1), (u181001), (u182001), (by first | rfl | (simp; done) | (simp [*]; done)), H', ⟨by have := HK1.out; omega⟩, ⟨(pR HO_181001.out)⟩, ⟨(pR HO_182001.out)⟩, ⟨pk BK177.out⟩, ⟨pk BK178.out⟩, ⟨pk BK179.out⟩, ⟨pk BK180.out⟩, ⟨pk BK181.out⟩, ⟨pB HB.out⟩⟩
     ·
      rw [if_neg c23] at H
      exact absurd H (by simp)
    ·
     rw [if_neg c22] at H
     exact absurd H (by simp)
   ·
    rw [if_neg c21] at H
    have c21b0 : decide (x22_1 < (l0_1.length : Int)) = false := decide_eq_false c21
    clear c21
    have H' := am H
    clear H
    have hnb63 := NB177_178.out
    have hnc63 := NB178_177.out
    have hnb64 := NB177_179.out
    have hnc64 := NB179_177.out
    have hnb65 := NB177_180.out
    have hnc65 := NB180_177.out
    have hnb66 := NB177_181.out
    have hnc66 := NB181_177.out
    obtain ⟨hcz67_0, hcz67_1, hcz67_2, hcz67_3⟩ := c4 BK177.out
    obtain ⟨hfz67_0, hfz67_1, hfz67_2, hfz67_3⟩ := z4 BK177.out
    go_wp2
    go_loopg [51] k1 (fun kq v51 w' => ∃ (x51_2 : Int) (x181002_2 : List ByteArray) (x182002_2 : List ByteArray) (u181002 : Value) (u182002 : Value), v51 = .int .i64 x51_2 ∧ Aside0 (peneloperef07_Cut.l1 kq l0_2 (l0_2.length : Int) x51_2 a0_0 l0_1 l0_2 l0_3 a0_0 x181001_1 x181002_2 a0_0 x182001_1 x182002_2 = some (r1, r2, r3, r4, r5, r6, r7, r8, r9)) ∧ Aside0 (kq ≤ k1) ∧ Aside0 (Kd.R Kd.string 9 w' w.heap.size (fun k_ => some k_ ≠ (u181002 : Value).ownBlock ∧ some k_ ≠ (u182001 : Value).ownBlock ∧ some k_ ≠ (u182002 : Value).ownBlock) u181001 x181001_1) ∧ Aside0 (Kd.R Kd.string 9 w' w.heap.size (fun k_ => some k_ ≠ (u181001 : Value).ownBlock ∧ some k_ ≠ (u182001 : Value).ownBlock ∧ some k_ ≠ (u182002 : Value).ownBlock) u181002 x181002_2) ∧ Aside0 (Kd.R Kd.string 9 w' w.heap.size (fun k_ => some k_ ≠ (u181001 : Value).ownBlock ∧ some k_ ≠ (u181002 : Value).ownBlock ∧ some k_ ≠ (u182002 : Value).ownBlock) u182001 x182001_1) ∧ Aside0 (Kd.R Kd.string 9 w' w.heap.size (fun k_ => some k_ ≠ (u181001 : Value).ownBlock ∧ some k_ ≠ (u181002 : Value).ownBlock ∧ some k_ ≠ (u182001 : Value).ownBlock) u182002 x182002_2) ∧ Aside0 (w'.heap[gb177]? = some (.cells #[.bool a0_0, (.slice A0_1 l0_1.length c0_1), (.slice A0_2 l0_2.length c0_2), (.slice A0_3 l0_3.length c0_3)] 25 (0, 0))) ∧ Aside0 (w'.heap[gb178]? = some (.cells #[.bool false, (.slice none 0 0), (.slice none 0 0), (.slice none 0 0)] 25 (0, 0))) ∧ Aside0 (w'.heap[gb179]? = some (.cells #[.bool false, (.slice none 0 0), (.slice none 0 0), (.slice none 0 0)] 25 (0, 0))) ∧ Aside0 (w'.heap[gb180]? = some (.cells #[.bool a0_0, u181001, u181002, (.slice none 0 0)] 25 (0, 0))) ∧ Aside0 (w'.heap[gb181]? = some (.cells #[.bool a0_0, u182001, u182002, (.slice none 0 0)] 25 (0, 0))) ∧ Aside0 (Below w.heap.size w w'))
    case atStart => exact ⟨(0), (([] : List ByteArray)), (([] : List ByteArray)), (.slice none 0 0), (.slice none 0 0), (by first | rfl | (simp; done) | (simp [*]; done)), H', ⟨Nat.le_refl _⟩, ⟨by exact Kd.R_mono (pR HO_181001.out) (fun _ hk => ⟨(by simp [Value.ownBlock]), ⟨hk, (by simp [Value.ownBlock])⟩⟩)⟩, ⟨by first | exact Kd.R_nil _ _ _ _ _ | exact Kd.N_nil _ _ _ _ _ | exact Kd.V_nil _ _ _ _ _ | exact Kd.Q_nil _ _ _ _ _ | exact Kd.S_nil _ _ _ _ _⟩, ⟨by exact Kd.R_mono (pR HO_182001.out) (fun _ hk => ⟨hk, ⟨(by simp [Value.ownBlock]), (by simp [Value.ownBlock])⟩⟩)⟩, ⟨by first | exact Kd.R_nil _ _ _ _ _ | exact Kd.N_nil _ _ _ _ _ | exact Kd.V_nil _ _ _ _ _ | exact Kd.Q_nil _ _ _ _ _ | exact Kd.S_nil _ _ _ _ _⟩, ⟨pk BK177.out⟩, ⟨pk BK178.out⟩, ⟨pk BK179.out⟩, ⟨pk BK180.out⟩, ⟨pk BK181.out⟩, ⟨pB HB.out⟩⟩
    case round =>
     clear H'
     try clear c1
     try clear p1
     try clear q1
     try clear hx1
     try clear c2
     try clear p2
     try clear c3
     try clear c4
     try clear c5
     try clear c6
     try clear p6
     try clear c9
     try clear c10
     try clear c11
     try clear c15
     try clear c16
     try clear c17
     try clear c18
     try clear p18
     try clear q18
     try clear hx18
     try clear c21
     try clear c21b0
     try clear c22
     try clear c22b0
     try clear c23
     try clear c23b0
     try clear c24
     try clear c24b0
     try clear c25
     try clear c26
     try clear c27
     try clear c28
     try clear c29
     try clear c34
     try clear c34b0
     try clear c35
     try clear c36
     try clear c37
     try clear c38
     try clear c39
     try clear c44
     try clear c45
     try clear c46
     try clear c47
     try clear c48
     try clear c49
     try clear c51
     try clear c52
     try clear c53
     try clear c58
     try clear c59
     try clear c60
     try clear c61
     try clear c63
     try clear c64
     try clear p64
     try clear c65
     try clear c66
     try clear hcz12_0
     try clear hcz12_1
     try clear hcz12_2
     try clear hcz12_3
     try clear hcz13_0
     try clear hcz13_1
     try clear hcz13_2
     try clear hcz13_3
     try clear hcz19_0
     try clear hcz19_1
     try clear hcz19_2
     try clear hcz19_3
     try clear hcz20_0
     try clear hcz20_1
     try clear hcz20_2
     try clear hcz20_3
     try clear hcz30_0
     try clear hcz30_1
     try clear hcz30_2
     try clear hcz30_3
     try clear hcz33_0
     try clear hcz33_1
     try clear hcz33_2
     try clear hcz33_3
     try clear hcz40_0
     try clear hcz40_1
     try clear hcz40_2
     try clear hcz40_3
     try clear hcz43_0
     try clear hcz43_1
     try clear hcz43_2
     try clear hcz43_3
     try clear hcz50_0
     try clear hcz50_1
     try clear hcz50_2
     try clear hcz50_3
     try clear hcz54_0
     try clear hcz54_1
     try clear hcz54_2
     try clear hcz54_3
     try clear hcz57_0
     try clear hcz57_1
     try clear hcz57_2
     try clear hcz57_3
     try clear hcz62_0
     try clear hcz62_1
     try clear hcz62_2
     try clear hcz62_3
     try clear hcz67_0
     try clear hcz67_1
     try clear hcz67_2
     try clear hcz67_3
     try clear hcz7_0
     try clear hcz7_1
     try clear hcz7_2
     try clear hcz7_3
     try clear hfz12_0
     try clear hfz12_1
     try clear hfz12_2
     try clear hfz12_3
     try clear hfz13_0
     try clear hfz13_1
     try clear hfz13_2
     try clear hfz13_3
     try clear hfz19_0
     try clear hfz19_1
     try clear hfz19_2
     try clear hfz19_3
     try clear hfz20_0
     try clear hfz20_1
     try clear hfz20_2
     try clear hfz20_3
     try clear hfz30_0
     try clear hfz30_1
     try clear hfz30_2
     try clear hfz30_3
     try clear hfz33_0
     try clear hfz33_1
     try clear hfz33_2
     try clear hfz33_3
     try clear hfz40_0
     try clear hfz40_1
     try clear hfz40_2
     try clear hfz40_3
     try clear hfz43_0
     try clear hfz43_1
     try clear hfz43_2
     try clear hfz43_3
     try clear hfz50_0
     try clear hfz50_1
     try clear hfz50_2
     try clear hfz50_3
     try clear hfz54_0
     try clear hfz54_1
     try clear hfz54_2
     try clear hfz54_3
     try clear hfz57_0
     try clear hfz57_1
     try clear hfz57_2
     try clear hfz57_3
     try clear hfz62_0
     try clear hfz62_1
     try clear hfz62_2
     try clear hfz62_3
     try clear hfz67_0
     try clear hfz67_1
     try clear hfz67_2
     try clear hfz67_3
     try clear hfz7_0
     try clear hfz7_1
     try clear hfz7_2
     try clear hfz7_3
     try clear hx182_0
     try clear p182
     try clear p2
     try clear q182
     try clear BK177; try clear BK178; try clear BK179; try clear BK180; try clear BK181; try clear HB
     obtain ⟨x51_2, x181002_2, x182002_2, u181002, u182002, rfl, HA, HK2, HO_181001, HO_181002, HO_182001, HO_182002, BK177, BK178, BK179, BK180, BK181, HB⟩ := hrel
     cases gk with
     | zero => exact absurd HA.out (by simp [peneloperef07_Cut.l1])
     | succ k2 =>
      have H := HA.out
      clear HA
      simp only [peneloperef07_Cut.l1] at H
      by_cases c68 : x51_2 < (l0_2.length : Int)
      ·
       rw [if_pos c68] at H
       have c68b0 : decide (x51_2 < (l0_2.length : Int)) = true := decide_eq_true c68
       clear c68
       by_cases c69 : 0 ≤ x51_2
       ·
        rw [if_pos c69] at H
        have c69b0 : decide (0 ≤ x51_2) = true := decide_eq_true c69
        clear c69
        by_cases c70 : x51_2 < (l0_2.length : Int)
        ·
         rw [if_pos c70] at H
         have c70b0 : decide (x51_2 < (l0_2.length : Int)) = true := decide_eq_true c70
         clear c70
         by_cases c71 : x51_2 < 4
         ·
          rw [if_pos c71] at H
          have c71b0 : decide (x51_2 < 4) = true := decide_eq_true c71
          clear c71
          by_cases c72 : x181002_2.length < 8796093022208
          ·
           rw [if_pos c72] at H
           have LMc72 := am c72
           clear c72
           obtain ⟨y193, hy193⟩ : ∃ y_ : List ByteArray, y_ = (x181002_2 ++ [rdOf ByteArray.empty l0_2 x51_2]) := ⟨_, rfl⟩
           replace H : (peneloperef07_Cut.l1 k2 l0_2 (l0_2.length : Int) (wrap64 (x51_2 + 1)) a0_0 l0_1 l0_2 l0_3 a0_0 x181001_1 y193 a0_0 x182001_1 x182002_2) = some (r1, r2, r3, r4, r5, r6, r7, r8, r9) := by first | (rw [hy193]; with_reducible exact H) | (have H2_ := (Option.bind_some _ _).symm.trans H; rw [hy193]; with_reducible exact H2_) | (have H2_ := (Option.bind_some _ _).symm.trans H; with_reducible exact H2_) | with_reducible exact H | (rw [hy193]; exact H) | exact H
           have Ny193 := am hy193
           clear hy193
           have H' := am H
           clear H
           have p192 : 0 ≤ (x51_2 : Int) := of_decide_eq_true (by first | (with_reducible assumption) | assumption)
           have q192 : x51_2 < (l0_2.length : Int) := of_decide_eq_true (by first | (with_reducible assumption) | assumption)
           obtain ⟨ad192, e192, hx192_0⟩ := Kd.at_string HR0_2.out x51_2 p192 q192
           cases e192
           replace hx192_0 := (HB.out.cell (World.block_lt_of_cell? w _ hx192_0)).trans hx192_0
           replace p192 := eq_true p192
           replace q192 := eq_true q192
           have hnb73 := NB180_177.out
           have hnc73 := NB177_180.out
           have hnb74 := NB180_178.out
           have hnc74 := NB178_180.out
           have hnb75 := NB180_179.out
           have hnc75 := NB179_180.out
           have hnb76 := NB180_181.out
           have hnc76 := NB181_180.out
           obtain ⟨hcz77_0, hcz77_1, hcz77_2, hcz77_3⟩ := c4 BK180.out
           obtain ⟨hfz77_0, hfz77_1, hfz77_2, hfz77_3⟩ := z4 BK180.out
           go_wp2_with (first | ((with_reducible refine gate_builtin (b := .append) (xs := #[.tmp 59, .tmp 61]) rfl ?_); at_builtin; refine Kd.R_append Kd.string (w0 := w) w.heap.size rfl (.tmp 59) (.tmp 61) 22 9 (.string ⟨#[]⟩) 16 rfl Try.underlying22 info9 rfl (by decide) (by omega) u181002 x181002_2 (rdOf ByteArray.empty l0_2 x51_2) [.string (rdOf ByteArray.empty l0_2 x51_2)] (fun k_ => some k_ ≠ (u181001 : Value).ownBlock ∧ some k_ ≠ (u182001 : Value).ownBlock ∧ some k_ ≠ (u182002 : Value).ownBlock) (fun _ => False) rfl rfl ?aP (fun _ hk => hk.elim) ?aF ?aO ?aB ?aS ?aL ?_; (case aP => exact rfl); (case aB => exact (pB HB.out)); (case aF => exact (fun k_ hk => ⟨Kd.fresh' (Kd.R_lt (pR HO_181001.out)) k_ hk, Kd.fresh' (Kd.R_lt (pR HO_182001.out)) k_ hk, Kd.fresh' (Kd.R_lt (pR HO_182002.out)) k_ hk⟩)); (case aO => exact (pR HO_181002.out)); (case aS => exact (below_size (pB HB.out))); (case aL => have := LMc72.out; omega); intro v194 w78 ho hb hg hat; rw [← Ny193.out] at ho; replace HO_181001 := am (Kd.R_after (ok := (fun k_ => some k_ ≠ (u182001 : Value).ownBlock ∧ some k_ ≠ (u182002 : Value).ownBlock)) (by exact Kd.R_mono (pR HO_181001.out) (fun _ hk => ⟨⟨hk.2.1, hk.2.2⟩, hk.1⟩)) hg hat); replace HO_182001 := am (Kd.R_after (ok := (fun k_ => some k_ ≠ (u181001 : Value).ownBlock ∧ some k_ ≠ (u182002 : Value).ownBlock)) (by exact Kd.R_mono (pR HO_182001.out) (fun _ hk => ⟨⟨hk.1, hk.2.2⟩, hk.2.1⟩)) hg hat); replace HO_182002 := am (Kd.R_after (ok := (fun k_ => some k_ ≠ (u181001 : Value).ownBlock ∧ some k_ ≠ (u182001 : Value).ownBlock)) (by exact Kd.R_mono (pR HO_182002.out) (fun _ hk => ⟨⟨hk.1, hk.2.2⟩, hk.2.1⟩)) hg hat); replace BK177 := am (blk_grown (pk BK177.out) hg (Kd.R_ne HO_181002.out BK177.out (by decide))); replace BK178 := am (blk_grown (pk BK178.out) hg (Kd.R_ne HO_181002.out BK178.out (by decide))); replace BK179 := am (blk_grown (pk BK179.out) hg (Kd.R_ne HO_181002.out BK179.out (by decide))); replace BK180 := am (blk_grown (pk BK180.out) hg (Kd.R_ne HO_181002.out BK180.out (by decide))); replace BK181 := am (blk_grown (pk BK181.out) hg (Kd.R_ne HO_181002.out BK181.out (by decide))); replace HB := am (hb); have HO195 := am (ho); clear HO_181002 ho hb hg hat; obtain ⟨Ao79, co79, eo79⟩ := Kd.R_slice HO195.out; subst eo79; obtain ⟨hcz80_0, hcz80_1, hcz80_2, hcz80_3⟩ := c4 BK180.out; obtain ⟨hfz80_0, hfz80_1, hfz80_2, hfz80_3⟩ := z4 BK180.out))
           go_roundg k2
           case measure => have := HK1.out; have := HK2.out; omega
           case rel => exact ⟨(wrap64 (x51_2 + 1)), (y193), (x182002_2), (.slice Ao79 y193.length co79), (u182002), (by first | rfl | (simp; done) | (simp [*]; done)), H', ⟨by have := HK1.out; have := HK2.out; omega⟩, ⟨by exact Kd.R_mono (pR (Kd.R_types HO_181001.out BK180.out (by decide))) (fun _ hk => ⟨hk.1.2, ⟨hk.1.1.1, hk.1.1.2⟩⟩)⟩, ⟨by exact Kd.R_mono (pR (Kd.R_types HO195.out BK180.out (by decide))) (fun _ hk => ⟨hk.1.1, ⟨hk.1.2.1, hk.1.2.2⟩⟩)⟩, ⟨by exact Kd.R_mono (pR (Kd.R_types HO_182001.out BK180.out (by decide))) (fun _ hk => ⟨hk.1.1.1, ⟨hk.1.2, hk.1.1.2⟩⟩)⟩, ⟨by exact Kd.R_mono (pR (Kd.R_types HO_182002.out BK180.out (by decide))) (fun _ hk => ⟨hk.1.1.1, ⟨hk.1.2, hk.1.1.2⟩⟩)⟩, ⟨pk BK177.out⟩, ⟨pk BK178.out⟩, ⟨pk BK179.out⟩, ⟨pP BK180.out⟩, ⟨pk BK181.out⟩, ⟨pB HB.out⟩⟩
          ·
           rw [if_neg c72] at H
           exact absurd H (by simp)
         ·
          rw [if_neg c71] at H
          have c71b0 : decide (x51_2 < 4) = false := decide_eq_false c71
          clear c71
          by_cases c81 : x182002_2.length < 8796093022208
          ·
           rw [if_pos c81] at H
           have LMc81 := am c81
           clear c81
           obtain ⟨y196, hy196⟩ : ∃ y_ : List ByteArray, y_ = (x182002_2 ++ [rdOf ByteArray.empty l0_2 x51_2]) := ⟨_, rfl⟩
           replace H : (peneloperef07_Cut.l1 k2 l0_2 (l0_2.length : Int) (wrap64 (x51_2 + 1)) a0_0 l0_1 l0_2 l0_3 a0_0 x181001_1 x181002_2 a0_0 x182001_1 y196) = some (r1, r2, r3, r4, r5, r6, r7, r8, r9) := by first | (rw [hy196]; with_reducible exact H) | (have H2_ := (Option.bind_some _ _).symm.trans H; rw [hy196]; with_reducible exact H2_) | (have H2_ := (Option.bind_some _ _).symm.trans H; with_reducible exact H2_) | with_reducible exact H | (rw [hy196]; exact H) | exact H
           have Ny196 := am hy196
           clear hy196
           have H' := am H
           clear H
           have p192 : 0 ≤ (x51_2 : Int) := of_decide_eq_true (by first | (with_reducible assumption) | assumption)
           have q192 : x51_2 < (l0_2.length : Int) := of_decide_eq_true (by first | (with_reducible assumption) | assumption)
           obtain ⟨ad192, e192, hx192_0⟩ := Kd.at_string HR0_2.out x51_2 p192 q192
           cases e192
           replace hx192_0 := (HB.out.cell (World.block_lt_of_cell? w _ hx192_0)).trans hx192_0
           replace p192 := eq_true p192
           replace q192 := eq_true q192
           have hnb82 := NB181_177.out
           have hnc82 := NB177_181.out
           have hnb83 := NB181_178.out
           have hnc83 := NB178_181.out
           have hnb84 := NB181_179.out
           have hnc84 := NB179_181.out
           have hnb85 := NB181_180.out
           have hnc85 := NB180_181.out
           obtain ⟨hcz86_0, hcz86_1, hcz86_2, hcz86_3⟩ := c4 BK181.out
           obtain ⟨hfz86_0, hfz86_1, hfz86_2, hfz86_3⟩ := z4 BK181.out
           go_wp2_with (first | ((with_reducible refine gate_builtin (b := .append) (xs := #[.tmp 65, .tmp 67]) rfl ?_); at_builtin; refine Kd.R_append Kd.string (w0 := w) w.heap.size rfl (.tmp 65) (.tmp 67) 22 9 (.string ⟨#[]⟩) 16 rfl Try.underlying22 info9 rfl (by decide) (by omega) u182002 x182002_2 (rdOf ByteArray.empty l0_2 x51_2) [.string (rdOf ByteArray.empty l0_2 x51_2)] (fun k_ => some k_ ≠ (u181001 : Value).ownBlock ∧ some k_ ≠ (u181002 : Value).ownBlock ∧ some k_ ≠ (u182001 : Value).ownBlock) (fun _ => False) rfl rfl ?aP (fun _ hk => hk.elim) ?aF ?aO ?aB ?aS ?aL ?_; (case aP => exact rfl); (case aB => exact (pB HB.out)); (case aF => exact (fun k_ hk => ⟨Kd.fresh' (Kd.R_lt (pR HO_181001.out)) k_ hk, Kd.fresh' (Kd.R_lt (pR HO_181002.out)) k_ hk, Kd.fresh' (Kd.R_lt (pR HO_182001.out)) k_ hk⟩)); (case aO => exact (pR HO_182002.out)); (case aS => exact (below_size (pB HB.out))); (case aL => have := LMc81.out; omega); intro v197 w87 ho hb hg hat; rw [← Ny196.out] at ho; replace HO_181001 := am (Kd.R_after (ok := (fun k_ => some k_ ≠ (u181002 : Value).ownBlock ∧ some k_ ≠ (u182001 : Value).ownBlock)) (by exact Kd.R_mono (pR HO_181001.out) (fun _ hk => ⟨⟨hk.1, hk.2.1⟩, hk.2.2⟩)) hg hat); replace HO_181002 := am (Kd.R_after (ok := (fun k_ => some k_ ≠ (u181001 : Value).ownBlock ∧ some k_ ≠ (u182001 : Value).ownBlock)) (by exact Kd.R_mono (pR HO_181002.out) (fun _ hk => ⟨⟨hk.1, hk.2.1⟩, hk.2.2⟩)) hg hat); replace HO_182001 := am (Kd.R_after (ok := (fun k_ => some k_ ≠ (u181001 : Value).ownBlock ∧ some k_ ≠ (u181002 : Value).ownBlock)) (by exact Kd.R_mono (pR HO_182001.out) (fun _ hk => ⟨⟨hk.1, hk.2.1⟩, hk.2.2⟩)) hg hat); replace BK177 := am (blk_grown (pk BK177.out) hg (Kd.R_ne HO_182002.out BK177.out (by decide))); replace BK178 := am (blk_grown (pk BK178.out) hg (Kd.R_ne HO_182002.out BK178.out (by decide))); replace BK179 := am (blk_grown (pk BK179.out) hg (Kd.R_ne HO_182002.out BK179.out (by decide))); replace BK180 := am (blk_grown (pk BK180.out) hg (Kd.R_ne HO_182002.out BK180.out (by decide))); replace BK181 := am (blk_grown (pk BK181.out) hg (Kd.R_ne HO_182002.out BK181.out (by decide))); replace HB := am (hb); have HO198 := am (ho); clear HO_182002 ho hb hg hat; obtain ⟨Ao88, co88, eo88⟩ := Kd.R_slice HO198.out; subst eo88; obtain ⟨hcz89_0, hcz89_1, hcz89_2, hcz89_3⟩ := c4 BK181.out; obtain ⟨hfz89_0, hfz89_1, hfz89_2, hfz89_3⟩ := z4 BK181.out))
           go_roundg k2
           case measure => have := HK1.out; have := HK2.out; omega
           case rel => exact ⟨(wrap64 (x51_2 + 1)), (x181002_2), (y196), (u181002), (.slice Ao88 y196.length co88), (by first | rfl | (simp; done) | (simp [*]; done)), H', ⟨by have := HK1.out; have := HK2.out; omega⟩, ⟨by exact Kd.R_mono (pR (Kd.R_types HO_181001.out BK181.out (by decide))) (fun _ hk => ⟨hk.1.1.1, ⟨hk.1.1.2, hk.1.2⟩⟩)⟩, ⟨by exact Kd.R_mono (pR (Kd.R_types HO_181002.out BK181.out (by decide))) (fun _ hk => ⟨hk.1.1.1, ⟨hk.1.1.2, hk.1.2⟩⟩)⟩, ⟨by exact Kd.R_mono (pR (Kd.R_types HO_182001.out BK181.out (by decide))) (fun _ hk => ⟨hk.1.1.1, ⟨hk.1.1.2, hk.1.2⟩⟩)⟩, ⟨by exact Kd.R_mono (pR (Kd.R_types HO198.out BK181.out (by decide))) (fun _ hk => ⟨hk.1.1, ⟨hk.1.2.1, hk.1.2.2⟩⟩)⟩, ⟨pk BK177.out⟩, ⟨pk BK178.out⟩, ⟨pk BK179.out⟩, ⟨pk BK180.out⟩, ⟨pP BK181.out⟩, ⟨pB HB.out⟩⟩
          ·
           rw [if_neg c81] at H
           exact absurd H (by simp)
        ·
         rw [if_neg c70] at H
         exact absurd H (by simp)
       ·
        rw [if_neg c69] at H
        exact absurd H (by simp)
      ·
       rw [if_neg c68] at H
       have c68b0 : decide (x51_2 < (l0_2.length : Int)) = false := decide_eq_false c68
       clear c68
       have H' := am H
       clear H
       have hnb90 := NB177_178.out
       have hnc90 := NB178_177.out
       have hnb91 := NB177_179.out
       have hnc91 := NB179_177.out
       have hnb92 := NB177_180.out
       have hnc92 := NB180_177.out
       have hnb93 := NB177_181.out
       have hnc93 := NB181_177.out
       obtain ⟨hcz94_0, hcz94_1, hcz94_2, hcz94_3⟩ := c4 BK177.out
       obtain ⟨hfz94_0, hfz94_1, hfz94_2, hfz94_3⟩ := z4 BK177.out
       go_wp2
       go_loopg [74] k2 (fun kq v74 w' => ∃ (x74_3 : Int) (x181003_3 : List Int) (x182003_3 : List Int) (u181003 : Value) (u182003 : Value), v74 = .int .i64 x74_3 ∧ Aside0 (peneloperef07_Cut.l2 kq l0_3 (l0_3.length : Int) x74_3 a0_0 l0_1 l0_2 l0_3 a0_0 x181001_1 x181002_2 x181003_3 a0_0 x182001_1 x182002_2 x182003_3 = some (r1, r2, r3, r4, r5, r6, r7, r8, r9)) ∧ Aside0 (kq ≤ k2) ∧ Aside0 (Kd.R Kd.string 9 w' w.heap.size (fun k_ => some k_ ≠ (u181002 : Value).ownBlock ∧ some k_ ≠ (u182001 : Value).ownBlock ∧ some k_ ≠ (u182002 : Value).ownBlock) u181001 x181001_1) ∧ Aside0 (Kd.R Kd.string 9 w' w.heap.size (fun k_ => some k_ ≠ (u181001 : Value).ownBlock ∧ some k_ ≠ (u182001 : Value).ownBlock ∧ some k_ ≠ (u182002 : Value).ownBlock) u181002 x181002_2) ∧ Aside0 (Kd.R (Kd.int .i64) 3 w' w.heap.size (fun k_ => some k_ ≠ (u182003 : Value).ownBlock) u181003 x181003_3) ∧ Aside0 (Kd.R Kd.string 9 w' w.heap.size (fun k_ => some k_ ≠ (u181001 : Value).ownBlock ∧ some k_ ≠ (u181002 : Value).ownBlock ∧ some k_ ≠ (u182002 : Value).ownBlock) u182001 x182001_1) ∧ Aside0 (Kd.R Kd.string 9 w' w.heap.size (fun k_ => some k_ ≠ (u181001 : Value).ownBlock ∧ some k_ ≠ (u181002 : Value).ownBlock ∧ some k_ ≠ (u182001 : Value).ownBlock) u182002 x182002_2) ∧ Aside0 (Kd.R (Kd.int .i64) 3 w' w.heap.size (fun k_ => some k_ ≠ (u181003 : Value).ownBlock) u182003 x182003_3) ∧ Aside0 (w'.heap[gb177]? = some (.cells #[.bool a0_0, (.slice A0_1 l0_1.length c0_1), (.slice A0_2 l0_2.length c0_2), (.slice A0_3 l0_3.length c0_3)] 25 (0, 0))) ∧ Aside0 (w'.heap[gb178]? = some (.cells #[.bool false, (.slice none 0 0), (.slice none 0 0), (.slice none 0 0)] 25 (0, 0))) ∧ Aside0 (w'.heap[gb179]? = some (.cells #[.bool false, (.slice none 0 0), (.slice none 0 0), (.slice none 0 0)] 25 (0, 0))) ∧ Aside0 (w'.heap[gb180]? = some (.cells #[.bool a0_0, u181001, u181002, u181003] 25 (0, 0))) ∧ Aside0 (w'.heap[gb181]? = some (.cells #[.bool a0_0, u182001, u182002, u182003] 25 (0, 0))) ∧ Aside0 (Below w.heap.size w w'))
       case atStart => exact ⟨(0), (([] : List Int)), (([] : List Int)), (.slice none 0 0), (.slice none 0 0), (by first | rfl | (simp; done) | (simp [*]; done)), H', ⟨Nat.le_refl _⟩, ⟨(pR HO_181001.out)⟩, ⟨(pR HO_181002.out)⟩, ⟨by first | exact Kd.R_nil _ _ _ _ _ | exact Kd.N_nil _ _ _ _ _ | exact Kd.V_nil _ _ _ _ _ | exact Kd.Q_nil _ _ _ _ _ | exact Kd.S_nil _ _ _ _ _⟩, ⟨(pR HO_182001.out)⟩, ⟨(pR HO_182002.out)⟩, ⟨by first | exact Kd.R_nil _ _ _ _ _ | exact Kd.N_nil _ _ _ _ _ | exact Kd.V_nil _ _ _ _ _ | exact Kd.Q_nil _ _ _ _ _ | exact Kd.S_nil _ _ _ _ _⟩, ⟨pk BK177.out⟩, ⟨pk BK178.out⟩, ⟨pk BK179.out⟩, ⟨pk BK180.out⟩, ⟨pk BK181.out⟩, ⟨pB HB.out⟩⟩
       case round =>
        clear H'
        try clear c1
        try clear p1
        try clear q1
        try clear hx1
        try clear c2
        try clear p2
        try clear c3
        try clear c4
        try clear c5
        try clear c6
        try clear p6
        try clear c7
        try clear c8
        try clear c9
        try clear c10
        try clear c11
        try clear c15
        try clear c16
        try clear c17
        try clear c18
        try clear p18
        try clear q18
        try clear hx18
        try clear p19
        try clear q19
        try clear hx19
        try clear c21
        try clear c21b0
        try clear c22
        try clear c22b0
        try clear c23
        try clear c23b0
        try clear c24
        try clear c24b0
        try clear c25
        try clear c26
        try clear c27
        try clear c28
        try clear c29
        try clear c34
        try clear c34b0
        try clear c35
        try clear c36
        try clear c37
        try clear c38
        try clear c39
        try clear c44
        try clear c45
        try clear c46
        try clear c47
        try clear c48
        try clear c49
        try clear c51
        try clear c52
        try clear c53
        try clear c58
        try clear c59
        try clear c60
        try clear c61
        try clear c63
        try clear c64
        try clear p64
        try clear c65
        try clear c66
        try clear c68
        try clear c68b0
        try clear c69
        try clear c69b0
        try clear c70
        try clear c70b0
        try clear c71
        try clear c71b0
        try clear c72
        try clear c73
        try clear c74
        try clear c75
        try clear c76
        try clear c81
        try clear c82
        try clear c83
        try clear c84
        try clear c85
        try clear c90
        try clear c91
        try clear c92
        try clear c93
        try clear hcz12_0
        try clear hcz12_1
        try clear hcz12_2
        try clear hcz12_3
        try clear hcz13_0
        try clear hcz13_1
        try clear hcz13_2
        try clear hcz13_3
        try clear hcz19_0
        try clear hcz19_1
        try clear hcz19_2
        try clear hcz19_3
        try clear hcz20_0
        try clear hcz20_1
        try clear hcz20_2
        try clear hcz20_3
        try clear hcz30_0
        try clear hcz30_1
        try clear hcz30_2
        try clear hcz30_3
        try clear hcz33_0
        try clear hcz33_1
        try clear hcz33_2
        try clear hcz33_3
        try clear hcz40_0
        try clear hcz40_1
        try clear hcz40_2
        try clear hcz40_3
        try clear hcz43_0
        try clear hcz43_1
        try clear hcz43_2
        try clear hcz43_3
        try clear hcz50_0
        try clear hcz50_1
        try clear hcz50_2
        try clear hcz50_3
        try clear hcz54_0
        try clear hcz54_1
        try clear hcz54_2
        try clear hcz54_3
        try clear hcz57_0
        try clear hcz57_1
        try clear hcz57_2
        try clear hcz57_3
        try clear hcz62_0
        try clear hcz62_1
        try clear hcz62_2
        try clear hcz62_3
        try clear hcz67_0
        try clear hcz67_1
        try clear hcz67_2
        try clear hcz67_3
        try clear hcz77_0
        try clear hcz77_1
        try clear hcz77_2
        try clear hcz77_3
        try clear hcz7_0
        try clear hcz7_1
        try clear hcz7_2
        try clear hcz7_3
        try clear hcz80_0
        try clear hcz80_1
        try clear hcz80_2
        try clear hcz80_3
        try clear hcz86_0
        try clear hcz86_1
        try clear hcz86_2
        try clear hcz86_3
        try clear hcz89_0
        try clear hcz89_1
        try clear hcz89_2
        try clear hcz89_3
        try clear hcz94_0
        try clear hcz94_1
        try clear hcz94_2
        try clear hcz94_3
        try clear hfz12_0
        try clear hfz12_1
        try clear hfz12_2
        try clear hfz12_3
        try clear hfz13_0
        try clear hfz13_1
        try clear hfz13_2
        try clear hfz13_3
        try clear hfz19_0
        try clear hfz19_1
        try clear hfz19_2
        try clear hfz19_3
        try clear hfz20_0
        try clear hfz20_1
        try clear hfz20_2
        try clear hfz20_3
        try clear hfz30_0
        try clear hfz30_1
        try clear hfz30_2
        try clear hfz30_3
        try clear hfz33_0
        try clear hfz33_1
        try clear hfz33_2
        try clear hfz33_3
        try clear hfz40_0
        try clear hfz40_1
        try clear hfz40_2
        try clear hfz40_3
        try clear hfz43_0
        try clear hfz43_1
        try clear hfz43_2
        try clear hfz43_3
        try clear hfz50_0
        try clear hfz50_1
        try clear hfz50_2
        try clear hfz50_3
        try clear hfz54_0
        try clear hfz54_1
        try clear hfz54_2
        try clear hfz54_3
        try clear hfz57_0
        try clear hfz57_1
        try clear hfz57_2
        try clear hfz57_3
        try clear hfz62_0
        try clear hfz62_1
        try clear hfz62_2
        try clear hfz62_3
        try clear hfz67_0
        try clear hfz67_1
        try clear hfz67_2
        try clear hfz67_3
        try clear hfz77_0
        try clear hfz77_1
        try clear hfz77_2
        try clear hfz77_3
        try clear hfz7_0
        try clear hfz7_1
        try clear hfz7_2
        try clear hfz7_3
        try clear hfz80_0
        try clear hfz80_1
        try clear hfz80_2
        try clear hfz80_3
        try clear hfz86_0
        try clear hfz86_1
        try clear hfz86_2
        try clear hfz86_3
        try clear hfz89_0
        try clear hfz89_1
        try clear hfz89_2
        try clear hfz89_3
        try clear hfz94_0
        try clear hfz94_1
        try clear hfz94_2
        try clear hfz94_3
        try clear hx182_0
        try clear hx192_0
        try clear p1
        try clear p18
        try clear p182
        try clear p192
        try clear p2
        try clear p6
        try clear p64
        try clear q1
        try clear q18
        try clear q182
        try clear q192
        try clear BK177; try clear BK178; try clear BK179; try clear BK180; try clear BK181; try clear HB
        obtain ⟨x74_3, x181003_3, x182003_3, u181003, u182003, rfl, HA, HK3, HO_181001, HO_181002, HO_181003, HO_182001, HO_182002, HO_182003, BK177, BK178, BK179, BK180, BK181, HB⟩ := hrel
        cases gk with
        | zero => exact absurd HA.out (by simp [peneloperef07_Cut.l2])
        | succ k3 =>
         have H := HA.out
         clear HA
         simp only [peneloperef07_Cut.l2] at H
         by_cases c95 : x74_3 < (l0_3.length : Int)
         ·
          rw [if_pos c95] at H
          have c95b0 : decide (x74_3 < (l0_3.length : Int)) = true := decide_eq_true c95
          clear c95
          by_cases c96 : 0 ≤ x74_3
          ·
           rw [if_pos c96] at H
           have c96b0 : decide (0 ≤ x74_3) = true := decide_eq_true c96
           clear c96
           by_cases c97 : x74_3 < (l0_3.length : Int)
           ·
            rw [if_pos c97] at H
            have c97b0 : decide (x74_3 < (l0_3.length : Int)) = true := decide_eq_true c97
            clear c97
            by_cases c98 : x74_3 < 5
            ·
             rw [if_pos c98] at H
             have c98b0 : decide (x74_3 < 5) = true := decide_eq_true c98
             clear c98
             by_cases c99 : x181003_3.length < 17592186044416
             ·
              rw [if_pos c99] at H
              have LMc99 := am c99
              clear c99
              obtain ⟨y200, hy200⟩ : ∃ y_ : List Int, y_ = (x181003_3 ++ [rd l0_3 x74_3]) := ⟨_, rfl⟩
              replace H : (peneloperef07_Cut.l2 k3 l0_3 (l0_3.length : Int) (wrap64 (x74_3 + 1)) a0_0 l0_1 l0_2 l0_3 a0_0 x181001_1 x181002_2 y200 a0_0 x182001_1 x182002_2 x182003_3) = some (r1, r2, r3, r4, r5, r6, r7, r8, r9) := by first | (rw [hy200]; with_reducible exact H) | (have H2_ := (Option.bind_some _ _).symm.trans H; rw [hy200]; with_reducible exact H2_) | (have H2_ := (Option.bind_some _ _).symm.trans H; with_reducible exact H2_) | with_reducible exact H | (rw [hy200]; exact H) | exact H
              have Ny200 := am hy200
              clear hy200
              have H' := am H
              clear H
              have p199 : 0 ≤ (x74_3 : Int) := of_decide_eq_true (by first | (with_reducible assumption) | assumption)
              have q199 : x74_3 < (l0_3.length : Int) := of_decide_eq_true (by first | (with_reducible assumption) | assumption)
              obtain ⟨ad199, e199, hx199_0⟩ := Kd.at_int HR0_3.out x74_3 p199 q199
              cases e199
              replace hx199_0 := (HB.out.cell (World.block_lt_of_cell? w _ hx199_0)).trans hx199_0
              replace p199 := eq_true p199
              replace q199 := eq_true q199
              have hnb100 := NB180_177.out
              have hnc100 := NB177_180.out
              have hnb101 := NB180_178.out
              have hnc101 := NB178_180.out
              have hnb102 := NB180_179.out
              have hnc102 := NB179_180.out
              have hnb103 := NB180_181.out
              have hnc103 := NB181_180.out
              obtain ⟨hcz104_0, hcz104_1, hcz104_2, hcz104_3⟩ := c4 BK180.out
              obtain ⟨hfz104_0, hfz104_1, hfz104_2, hfz104_3⟩ := z4 BK180.out
              go_wp2_with (first | ((with_reducible refine gate_builtin (b := .append) (xs := #[.tmp 82, .tmp 84]) rfl ?_); at_builtin; refine Kd.R_append (Kd.int .i64) (w0 := w) w.heap.size rfl (.tmp 82) (.tmp 84) 23 3 (.int .i64 0) 8 rfl Try.underlying23 info3 rfl (by decide) (by omega) u181003 x181003_3 (rd l0_3 x74_3) [.int .i64 (rd l0_3 x74_3)] (fun k_ => some k_ ≠ (u182003 : Value).ownBlock) (fun _ => False) rfl rfl ?aP (fun _ hk => hk.elim) ?aF ?aO ?aB ?aS ?aL ?_; (case aP => exact rfl); (case aB => exact (pB HB.out)); (case aF => exact (fun k_ hk => Kd.fresh' (Kd.R_lt (pR HO_182003.out)) k_ hk)); (case aO => exact (pR HO_181003.out)); (case aS => exact (below_size (pB HB.out))); (case aL => have := LMc99.out; omega); intro v201 w105 ho hb hg hat; rw [← Ny200.out] at ho; replace HO_181001 := am (Kd.R_over' (pR HO_181001.out) (Kd.R_typed (pR HO_181003.out)) (by decide) hg); replace HO_181002 := am (Kd.R_over' (pR HO_181002.out) (Kd.R_typed (pR HO_181003.out)) (by decide) hg); replace HO_182001 := am (Kd.R_over' (pR HO_182001.out) (Kd.R_typed (pR HO_181003.out)) (by decide) hg); replace HO_182002 := am (Kd.R_over' (pR HO_182002.out) (Kd.R_typed (pR HO_181003.out)) (by decide) hg); replace HO_182003 := am (Kd.R_after (ok := (fun _ => True)) (by exact Kd.R_mono (pR HO_182003.out) (fun _ hk => ⟨trivial, hk⟩)) hg hat); replace BK177 := am (blk_grown (pk BK177.out) hg (Kd.R_ne HO_181003.out BK177.out (by decide))); replace BK178 := am (blk_grown (pk BK178.out) hg (Kd.R_ne HO_181003.out BK178.out (by decide))); replace BK179 := am (blk_grown (pk BK179.out) hg (Kd.R_ne HO_181003.out BK179.out (by decide))); replace BK180 := am (blk_grown (pk BK180.out) hg (Kd.R_ne HO_181003.out BK180.out (by decide))); replace BK181 := am (blk_grown (pk BK181.out) hg (Kd.R_ne HO_181003.out BK181.out (by decide))); replace HB := am (hb); have HO202 := am (ho); clear HO_181003 ho hb hg hat; obtain ⟨Ao106, co106, eo106⟩ := Kd.R_slice HO202.out; subst eo106; obtain ⟨hcz107_0, hcz107_1, hcz107_2, hcz107_3⟩ := c4 BK180.out; obtain ⟨hfz107_0, hfz107_1, hfz107_2, hfz107_3⟩ := z4 BK180.out))
              go_roundg k3
              case measure => have := HK1.out; have := HK2.out; have := HK3.out; omega
              case rel => exact ⟨(wrap64 (x74_3 + 1)), (y200), (x182003_3), (.slice Ao106 y200.length co106), (u182003), (by first | rfl | (simp; done) | (simp [*]; done)), H', ⟨by have := HK1.out; have := HK2.out; have := HK3.out; omega⟩, ⟨by exact Kd.R_mono (pR (Kd.R_types HO_181001.out BK180.out (by decide))) (fun _ hk => ⟨hk.1.1, ⟨hk.1.2.1, hk.1.2.2⟩⟩)⟩, ⟨by exact Kd.R_mono (pR (Kd.R_types HO_181002.out BK180.out (by decide))) (fun _ hk => ⟨hk.1.1, ⟨hk.1.2.1, hk.1.2.2⟩⟩)⟩, ⟨by exact Kd.R_mono (pR (Kd.R_types HO202.out BK180.out (by decide))) (fun _ hk => hk.1)⟩, ⟨by exact Kd.R_mono (pR (Kd.R_types HO_182001.out BK180.out (by decide))) (fun _ hk => ⟨hk.1.1, ⟨hk.1.2.1, hk.1.2.2⟩⟩)⟩, ⟨by exact Kd.R_mono (pR (Kd.R_types HO_182002.out BK180.out (by decide))) (fun _ hk => ⟨hk.1.1, ⟨hk.1.2.1, hk.1.2.2⟩⟩)⟩, ⟨by exact Kd.R_mono (pR (Kd.R_types HO_182003.out BK180.out (by decide))) (fun _ hk => hk.1.2)⟩, ⟨pk BK177.out⟩, ⟨pk BK178.out⟩, ⟨pk BK179.out⟩, ⟨pP BK180.out⟩, ⟨pk BK181.out⟩, ⟨pB HB.out⟩⟩
             ·
              rw [if_neg c99] at H
              exact absurd H (by simp)
            ·
             rw [if_neg c98] at H
             have c98b0 : decide (x74_3 < 5) = false := decide_eq_false c98
             clear c98
             by_cases c108 : x182003_3.length < 17592186044416
             ·
              rw [if_pos c108] at H
              have LMc108 := am c108
              clear c108
              obtain ⟨y203, hy203⟩ : ∃ y_ : List Int, y_ = (x182003_3 ++ [rd l0_3 x74_3]) := ⟨_, rfl⟩
              replace H : (peneloperef07_Cut.l2 k3 l0_3 (l0_3.length : Int) (wrap64 (x74_3 + 1)) a0_0 l0_1 l0_2 l0_3 a0_0 x181001_1 x181002_2 x181003_3 a0_0 x182001_1 x182002_2 y203) = some (r1, r2, r3, r4, r5, r6, r7, r8, r9) := by first | (rw [hy203]; with_reducible exact H) | (have H2_ := (Option.bind_some _ _).symm.trans H; rw [hy203]; with_reducible exact H2_) | (have H2_ := (Option.bind_some _ _).symm.trans H; with_reducible exact H2_) | with_reducible exact H | (rw [hy203]; exact H) | exact H
              have Ny203 := am hy203
              clear hy203
              have H' := am H
              clear H
              have p199 : 0 ≤ (x74_3 : Int) := of_decide_eq_true (by first | (with_reducible assumption) | assumption)
              have q199 : x74_3 < (l0_3.length : Int) := of_decide_eq_true (by first | (with_reducible assumption) | assumption)
              obtain ⟨ad199, e199, hx199_0⟩ := Kd.at_int HR0_3.out x74_3 p199 q199
              cases e199
              replace hx199_0 := (HB.out.cell (World.block_lt_of_cell? w _ hx199_0)).trans hx199_0
              replace p199 := eq_true p199
              replace q199 := eq_true q199
              have hnb109 := NB181_177.out
              have hnc109 := NB177_181.out
              have hnb110 := NB181_178.out
              have hnc110 := NB178_181.out
              have hnb111 := NB181_179.out
              have hnc111 := NB179_181.out
              have hnb112 := NB181_180.out
              have hnc112 := NB180_181.out
              obtain ⟨hcz113_0, hcz113_1, hcz113_2, hcz113_3⟩ := c4 BK181.out
              obtain ⟨hfz113_0, hfz113_1, hfz113_2, hfz113_3⟩ := z4 BK181.out
              go_wp2_with (first | ((with_reducible refine gate_builtin (b := .append) (xs := #[.tmp 88, .tmp 90]) rfl ?_); at_builtin; refine Kd.R_append (Kd.int .i64) (w0 := w) w.heap.size rfl (.tmp 88) (.tmp 90) 23 3 (.int .i64 0) 8 rfl Try.underlying23 info3 rfl (by decide) (by omega) u182003 x182003_3 (rd l0_3 x74_3) [.int .i64 (rd l0_3 x74_3)] (fun k_ => some k_ ≠ (u181003 : Value).ownBlock) (fun _ => False) rfl rfl ?aP (fun _ hk => hk.elim) ?aF ?aO ?aB ?aS ?aL ?_; (case aP => exact rfl); (case aB => exact (pB HB.out)); (case aF => exact (fun k_ hk => Kd.fresh' (Kd.R_lt (pR HO_181003.out)) k_ hk)); (case aO => exact (pR HO_182003.out)); (case aS => exact (below_size (pB HB.out))); (case aL => have := LMc108.out; omega); intro v204 w114 ho hb hg hat; rw [← Ny203.out] at ho; replace HO_181001 := am (Kd.R_over' (pR HO_181001.out) (Kd.R_typed (pR HO_182003.out)) (by decide) hg); replace HO_181002 := am (Kd.R_over' (pR HO_181002.out) (Kd.R_typed (pR HO_182003.out)) (by decide) hg); replace HO_181003 := am (Kd.R_after (ok := (fun _ => True)) (by exact Kd.R_mono (pR HO_181003.out) (fun _ hk => ⟨trivial, hk⟩)) hg hat); replace HO_182001 := am (Kd.R_over' (pR HO_182001.out) (Kd.R_typed (pR HO_182003.out)) (by decide) hg); replace HO_182002 := am (Kd.R_over' (pR HO_182002.out) (Kd.R_typed (pR HO_182003.out)) (by decide) hg); replace BK177 := am (blk_grown (pk BK177.out) hg (Kd.R_ne HO_182003.out BK177.out (by decide))); replace BK178 := am (blk_grown (pk BK178.out) hg (Kd.R_ne HO_182003.out BK178.out (by decide))); replace BK179 := am (blk_grown (pk BK179.out) hg (Kd.R_ne HO_182003.out BK179.out (by decide))); replace BK180 := am (blk_grown (pk BK180.out) hg (Kd.R_ne HO_182003.out BK180.out (by decide))); replace BK181 := am (blk_grown (pk BK181.out) hg (Kd.R_ne HO_182003.out BK181.out (by decide))); replace HB := am (hb); have HO205 := am (ho); clear HO_182003 ho hb hg hat; obtain ⟨Ao115, co115, eo115⟩ := Kd.R_slice HO205.out; subst eo115; obtain ⟨hcz116_0, hcz116_1, hcz116_2, hcz116_3⟩ := c4 BK181.out; obtain ⟨hfz116_0, hfz116_1, hfz116_2, hfz116_3⟩ := z4 BK181.out))
              go_roundg k3
              case measure => have := HK1.out; have := HK2.out; have := HK3.out; omega
              case rel => exact ⟨(wrap64 (x74_3 + 1)), (x181003_3), (y203), (u181003), (.slice Ao115 y203.length co115), (by first | rfl | (simp; done) | (simp [*]; done)), H', ⟨by have := HK1.out; have := HK2.out; have := HK3.out; omega⟩, ⟨by exact Kd.R_mono (pR (Kd.R_types HO_181001.out BK181.out (by decide))) (fun _ hk => ⟨hk.1.1, ⟨hk.1.2.1, hk.1.2.2⟩⟩)⟩, ⟨by exact Kd.R_mono (pR (Kd.R_types HO_181002.out BK181.out (by decide))) (fun _ hk => ⟨hk.1.1, ⟨hk.1.2.1, hk.1.2.2⟩⟩)⟩, ⟨by exact Kd.R_mono (pR (Kd.R_types HO_181003.out BK181.out (by decide))) (fun _ hk => hk.1.2)⟩, ⟨by exact Kd.R_mono (pR (Kd.R_types HO_182001.out BK181.out (by decide))) (fun _ hk => ⟨hk.1.1, ⟨hk.1.2.1, hk.1.2.2⟩⟩)⟩, ⟨by exact Kd.R_mono (pR (Kd.R_types HO_182002.out BK181.out (by decide))) (fun _ hk => ⟨hk.1.1, ⟨hk.1.2.1, hk.1.2.2⟩⟩)⟩, ⟨by exact Kd.R_mono (pR (Kd.R_types HO205.out BK181.out (by decide))) (fun _ hk => hk.1)⟩, ⟨pk BK177.out⟩, ⟨pk BK178.out⟩, ⟨pk BK179.out⟩, ⟨pk BK180.out⟩, ⟨pP BK181.out⟩, ⟨pB HB.out⟩⟩
             ·
              rw [if_neg c108] at H
              exact absurd H (by simp)
           ·
            rw [if_neg c97] at H
            exact absurd H (by simp)
          ·
           rw [if_neg c96] at H
           exact absurd H (by simp)
         ·
          rw [if_neg c95] at H
          have c95b0 : decide (x74_3 < (l0_3.length : Int)) = false := decide_eq_false c95
          clear c95
          by_cases c117 : 4 < (l0_1.length : Int)
          ·
           rw [if_pos c117] at H
           have c117b0 : decide (4 < (l0_1.length : Int)) = true := decide_eq_true c117
           have c117b1 : decide (4 < l0_1.length) = true := decide_eq_true (by omega)
           clear c117
           simp only [Option.some.injEq, Prod.mk.injEq] at H
           obtain ⟨rfl, rfl, rfl, rfl, rfl, rfl, rfl, rfl, rfl⟩ := H
           try go_wp2
           replace HO_181001 := am (Kd.R_drew HO_181001.out)
           replace HO_181002 := am (Kd.R_drew HO_181002.out)
           replace HO_181003 := am (Kd.R_drew HO_181003.out)
           replace HO_182001 := am (Kd.R_drew HO_182001.out)
           replace HO_182002 := am (Kd.R_drew HO_182002.out)
           replace HO_182003 := am (Kd.R_drew HO_182003.out)
           replace BK177 := am (blk_drew BK177.out)
           replace BK178 := am (blk_drew BK178.out)
           replace BK179 := am (blk_drew BK179.out)
           replace BK180 := am (blk_drew BK180.out)
           replace BK181 := am (blk_drew BK181.out)
           replace HB := am (below_drew1 HB.out)
           have p206 : 0 ≤ (4 : Int) := (by omega)
           have q206 : 4 < (l0_1.length : Int) := of_decide_eq_true (by first | (with_reducible assumption) | assumption)
           obtain ⟨ad206, e206, hx206_0⟩ := Kd.at_string HR0_1.out 4 p206 q206
           have hw206_0 := hx206_0
           (try rw [show ((4 : Int)).toNat = 4 from rfl] at hw206_0)
           (try rw [show 4 * 1 = 4 from rfl] at hw206_0)
           (try simp only [Nat.reduceMul, Nat.reduceEqDiff, Go.Addr.add, ↓reduceIte] at hw206_0)
           cases e206
           (try simp only [show (4 : Int).toNat = 4 from rfl, Nat.reduceMul, Nat.reduceEqDiff, Go.Addr.add, ↓reduceIte] at hx206_0)
           have qi206 : (4 < l0_1.length) = True := eq_true (by omega)
           (try rw [show ((4 : Int)).toNat = 4 from rfl] at hx206_0)
           replace hx206_0 := (HB.out.cell (World.block_lt_of_cell? w _ hx206_0)).trans hx206_0
           replace p206 := eq_true p206
           replace q206 := eq_true q206
           obtain ⟨Ao120, co120, eo120⟩ := Kd.R_slice HO_181001.out
           (first | subst eo120 | (injection eo120 with f1_ f2_ f3_; have f4_ := f1_.symm; have f5_ := f3_.symm; clear f1_ f2_ f3_; subst f4_; subst f5_))
           obtain ⟨Ao122, co122, eo122⟩ := Kd.R_slice HO_181002.out
           (first | subst eo122 | (injection eo122 with f1_ f2_ f3_; have f4_ := f1_.symm; have f5_ := f3_.symm; clear f1_ f2_ f3_; subst f4_; subst f5_))
           obtain ⟨Ao124, co124, eo124⟩ := Kd.R_slice HO_181003.out
           (first | subst eo124 | (injection eo124 with f1_ f2_ f3_; have f4_ := f1_.symm; have f5_ := f3_.symm; clear f1_ f2_ f3_; subst f4_; subst f5_))
           obtain ⟨Ao127, co127, eo127⟩ := Kd.R_slice HO_182001.out
           (first | subst eo127 | (injection eo127 with f1_ f2_ f3_; have f4_ := f1_.symm; have f5_ := f3_.symm; clear f1_ f2_ f3_; subst f4_; subst f5_))
           obtain ⟨Ao129, co129, eo129⟩ := Kd.R_slice HO_182002.out
           (first | subst eo129 | (injection eo129 with f1_ f2_ f3_; have f4_ := f1_.symm; have f5_ := f3_.symm; clear f1_ f2_ f3_; subst f4_; subst f5_))
           obtain ⟨Ao131, co131, eo131⟩ := Kd.R_slice HO_182003.out
           (first | subst eo131 | (injection eo131 with f1_ f2_ f3_; have f4_ := f1_.symm; have f5_ := f3_.symm; clear f1_ f2_ f3_; subst f4_; subst f5_))
           refine start_ (n := 9) (S := fun w' => w'.cell? ⟨gb180, 0, none⟩ = some (.bool a0_0) ∧ w'.cell? ⟨gb180, 1, none⟩ = some (.slice Ao120 x181001_1.length co120) ∧ w'.cell? ⟨gb180, 2, none⟩ = some (.slice Ao122 x181002_2.length co122) ∧ w'.cell? ⟨gb180, 3, none⟩ = some (.slice Ao124 x181003_3.length co124) ∧ w'.cell? ⟨gb177, 0, none⟩ = some (.bool a0_0) ∧ w'.cell? ⟨gb177, 1, none⟩ = some (.slice (some ad206) l0_1.length c0_1) ∧ w'.cell? ⟨gb177, 2, none⟩ = some (.slice A0_2 l0_2.length c0_2) ∧ w'.cell? ⟨gb177, 3, none⟩ = some (.slice A0_3 l0_3.length c0_3) ∧ w'.cell? ⟨gb181, 0, none⟩ = some (.bool a0_0) ∧ w'.cell? ⟨gb181, 1, none⟩ = some (.slice Ao127 x182001_1.length co127) ∧ w'.cell? ⟨gb181, 2, none⟩ = some (.slice Ao129 x182002_2.length co129) ∧ w'.cell? ⟨gb181, 3, none⟩ = some (.slice Ao131 x182003_3.length co131) ∧ w'.cell? ⟨ad206.block, ad206.off + 4, none⟩ = some (.string (rdOf ByteArray.empty l0_1 4))) (ds := []) (ba 9 0) (by kernel_rfl) rfl rfl ⟨bc BK180.out, bc BK180.out, bc BK180.out, bc BK180.out, bc BK177.out, bc BK177.out, bc BK177.out, bc BK177.out, bc BK181.out, bc BK181.out, bc BK181.out, bc BK181.out, ((HB.out.cell (World.block_lt_of_cell? w _ hw206_0)).trans hw206_0)⟩ (fun hHeld => ?_); refine with_tabW peneloperef07_Cut.tab25 peneloperef07_Cut.bits25 (fun HT_ HW_ => ?_)
           generalize wr.drew = w118 at HO_181001 HO_181002 HO_181003 HO_182001 HO_182002 HO_182003 BK177 BK178 BK179 BK180 BK181 HB hx206_0 hHeld ⊢
           refine pu 1 95 (ba 9 2) HT_ ?_
           refine tk 0 94 (ba 9 3) HT_ HW_ hHeld ?_
           refine tk 2 96 (ba 9 7) HT_ HW_ hHeld ?_
           refine pu 3 97 (ba 9 15) HT_ ?_
           refine tk 4 98 (ba 9 31) HT_ HW_ hHeld ?_
           refine tk 5 99 (ba 9 63) HT_ HW_ hHeld ?_
           refine one_ (i := 6) (N := none) (ba 9 127) rfl rfl (one_of HT_.out (by kernel_rfl)) (by decide) (fun K hK => ?_)
           have hs119 : w118.cell? ⟨gb178, 0, none⟩ = some (.bool false) := bc BK178.out
           have hfs119 := z1 BK178.out
           have hns119_0 := NB177_178.out
           have hns119_2 := NB179_178.out
           have hns119_3 := NB180_178.out
           have hns119_4 := NB181_178.out
           have hms119_0 := NB178_177.out
           have hms119_2 := NB178_179.out
           have hms119_3 := NB178_180.out
           have hms119_4 := NB178_181.out
           have hs121 : w118.cell? ⟨gb178, 1, none⟩ = some (.slice none 0 0) := bc BK178.out
           have hfs121 := blk_frozen BK178.out 1
           have hns121_0 := NB177_178.out
           have hns121_2 := NB179_178.out
           have hns121_3 := NB180_178.out
           have hns121_4 := NB181_178.out
           have hms121_0 := NB178_177.out
           have hms121_2 := NB178_179.out
           have hms121_3 := NB178_180.out
           have hms121_4 := NB178_181.out
           have hs123 : w118.cell? ⟨gb178, 2, none⟩ = some (.slice none 0 0) := bc BK178.out
           have hfs123 := blk_frozen BK178.out 2
           have hns123_0 := NB177_178.out
           have hns123_2 := NB179_178.out
           have hns123_3 := NB180_178.out
           have hns123_4 := NB181_178.out
           have hms123_0 := NB178_177.out
           have hms123_2 := NB178_179.out
           have hms123_3 := NB178_180.out
           have hms123_4 := NB178_181.out
           have hs125 : w118.cell? ⟨gb178, 3, none⟩ = some (.slice none 0 0) := bc BK178.out
           have hfs125 := blk_frozen BK178.out 3
           have hns125_0 := NB177_178.out
           have hns125_2 := NB179_178.out
           have hns125_3 := NB180_178.out
           have hns125_4 := NB181_178.out
           have hms125_0 := NB178_177.out
           have hms125_2 := NB178_179.out
           have hms125_3 := NB178_180.out
           have hms125_4 := NB178_181.out
           refine skip_ (w1 := ?_) (by rfl) rfl ?_ ?_
           rotate_left
           ·
            go_simp
            rfl
           refine hK.out _ _ ⟨((cell_far (p := ⟨gb178, _, none⟩) NB180_178.out _).trans (((cell_far (p := ⟨gb178, _, none⟩) NB180_178.out _).trans (((cell_far (p := ⟨gb178, _, none⟩) NB180_178.out _).trans (((cell_far (p := ⟨gb178, _, none⟩) NB180_178.out _).trans (hHeld.1)))))))), ((cell_far (p := ⟨gb178, _, none⟩) NB180_178.out _).trans (((cell_far (p := ⟨gb178, _, none⟩) NB180_178.out _).trans (((cell_far (p := ⟨gb178, _, none⟩) NB180_178.out _).trans (((cell_far (p := ⟨gb178, _, none⟩) NB180_178.out _).trans (hHeld.2.1)))))))), ((cell_far (p := ⟨gb178, _, none⟩) NB180_178.out _).trans (((cell_far (p := ⟨gb178, _, none⟩) NB180_178.out _).trans (((cell_far (p := ⟨gb178, _, none⟩) NB180_178.out _).trans (((cell_far (p := ⟨gb178, _, none⟩) NB180_178.out _).trans (hHeld.2.2.1)))))))), ((cell_far (p := ⟨gb178, _, none⟩) NB180_178.out _).trans (((cell_far (p := ⟨gb178, _, none⟩) NB180_178.out _).trans (((cell_far (p := ⟨gb178, _, none⟩) NB180_178.out _).trans (((cell_far (p := ⟨gb178, _, none⟩) NB180_178.out _).trans (hHeld.2.2.2.1)))))))), ((cell_far (p := ⟨gb178, _, none⟩) NB177_178.out _).trans (((cell_far (p := ⟨gb178, _, none⟩) NB177_178.out _).trans (((cell_far (p := ⟨gb178, _, none⟩) NB177_178.out _).trans (((cell_far (p := ⟨gb178, _, none⟩) NB177_178.out _).trans (hHeld.2.2.2.2.1)))))))), ((cell_far (p := ⟨gb178, _, none⟩) NB177_178.out _).trans (((cell_far (p := ⟨gb178, _, none⟩) NB177_178.out _).trans (((cell_far (p := ⟨gb178, _, none⟩) NB177_178.out _).trans (((cell_far (p := ⟨gb178, _, none⟩) NB177_178.out _).trans (hHeld.2.2.2.2.2.1)))))))), ((cell_far (p := ⟨gb178, _, none⟩) NB177_178.out _).trans (((cell_far (p := ⟨gb178, _, none⟩) NB177_178.out _).trans (((cell_far (p := ⟨gb178, _, none⟩) NB177_178.out _).trans (((cell_far (p := ⟨gb178, _, none⟩) NB177_178.out _).trans (hHeld.2.2.2.2.2.2.1)))))))), ((cell_far (p := ⟨gb178, _, none⟩) NB177_178.out _).trans (((cell_far (p := ⟨gb178, _, none⟩) NB177_178.out _).trans (((cell_far (p := ⟨gb178, _, none⟩) NB177_178.out _).trans (((cell_far (p := ⟨gb178, _, none⟩) NB177_178.out _).trans (hHeld.2.2.2.2.2.2.2.1)))))))), ((cell_far (p := ⟨gb178, _, none⟩) NB181_178.out _).trans (((cell_far (p := ⟨gb178, _, none⟩) NB181_178.out _).trans (((cell_far (p := ⟨gb178, _, none⟩) NB181_178.out _).trans (((cell_far (p := ⟨gb178, _, none⟩) NB181_178.out _).trans (hHeld.2.2.2.2.2.2.2.2.1)))))))), ((cell_far (p := ⟨gb178, _, none⟩) NB181_178.out _).trans (((cell_far (p := ⟨gb178, _, none⟩) NB181_178.out _).trans (((cell_far (p := ⟨gb178, _, none⟩) NB181_178.out _).trans (((cell_far (p := ⟨gb178, _, none⟩) NB181_178.out _).trans (hHeld.2.2.2.2.2.2.2.2.2.1)))))))), ((cell_far (p := ⟨gb178, _, none⟩) NB181_178.out _).trans (((cell_far (p := ⟨gb178, _, none⟩) NB181_178.out _).trans (((cell_far (p := ⟨gb178, _, none⟩) NB181_178.out _).trans (((cell_far (p := ⟨gb178, _, none⟩) NB181_178.out _).trans (hHeld.2.2.2.2.2.2.2.2.2.2.1)))))))), ((cell_far (p := ⟨gb178, _, none⟩) NB181_178.out _).trans (((cell_far (p := ⟨gb178, _, none⟩) NB181_178.out _).trans (((cell_far (p := ⟨gb178, _, none⟩) NB181_178.out _).trans (((cell_far (p := ⟨gb178, _, none⟩) NB181_178.out _).trans (hHeld.2.2.2.2.2.2.2.2.2.2.2.1)))))))), ((cell_far (p := ⟨gb178, _, none⟩) (by first | exact Nat.ne_of_lt (Nat.lt_of_lt_of_le (by have := World.block_lt_of_cell? _ _ hw206_0; first | rwa [add_block] at this | exact this) GW178.out) | (rw [add_block]; exact Nat.ne_of_lt (Nat.lt_of_lt_of_le (by have := World.block_lt_of_cell? _ _ hw206_0; first | rwa [add_block] at this | exact this) GW178.out)) | (show (Addr.add _ _).block ≠ _; rw [add_block]; exact Nat.ne_of_lt (Nat.lt_of_lt_of_le (by have := World.block_lt_of_cell? _ _ hw206_0; first | rwa [add_block] at this | exact this) GW178.out)) | (dsimp only; exact Nat.ne_of_lt (Nat.lt_of_lt_of_le (by have := World.block_lt_of_cell? _ _ hw206_0; first | rwa [add_block] at this | exact this) GW178.out))) _).trans (((cell_far (p := ⟨gb178, _, none⟩) (by first | exact Nat.ne_of_lt (Nat.lt_of_lt_of_le (by have := World.block_lt_of_cell? _ _ hw206_0; first | rwa [add_block] at this | exact this) GW178.out) | (rw [add_block]; exact Nat.ne_of_lt (Nat.lt_of_lt_of_le (by have := World.block_lt_of_cell? _ _ hw206_0; first | rwa [add_block] at this | exact this) GW178.out)) | (show (Addr.add _ _).block ≠ _; rw [add_block]; exact Nat.ne_of_lt (Nat.lt_of_lt_of_le (by have := World.block_lt_of_cell? _ _ hw206_0; first | rwa [add_block] at this | exact this) GW178.out)) | (dsimp only; exact Nat.ne_of_lt (Nat.lt_of_lt_of_le (by have := World.block_lt_of_cell? _ _ hw206_0; first | rwa [add_block] at this | exact this) GW178.out))) _).trans (((cell_far (p := ⟨gb178, _, none⟩) (by first | exact Nat.ne_of_lt (Nat.lt_of_lt_of_le (by have := World.block_lt_of_cell? _ _ hw206_0; first | rwa [add_block] at this | exact this) GW178.out) | (rw [add_block]; exact Nat.ne_of_lt (Nat.lt_of_lt_of_le (by have := World.block_lt_of_cell? _ _ hw206_0; first | rwa [add_block] at this | exact this) GW178.out)) | (show (Addr.add _ _).block ≠ _; rw [add_block]; exact Nat.ne_of_lt (Nat.lt_of_lt_of_le (by have := World.block_lt_of_cell? _ _ hw206_0; first | rwa [add_block] at this | exact this) GW178.out)) | (dsimp only; exact Nat.ne_of_lt (Nat.lt_of_lt_of_le (by have := World.block_lt_of_cell? _ _ hw206_0; first | rwa [add_block] at this | exact this) GW178.out))) _).trans (((cell_far (p := ⟨gb178, _, none⟩) (by first | exact Nat.ne_of_lt (Nat.lt_of_lt_of_le (by have := World.block_lt_of_cell? _ _ hw206_0; first | rwa [add_block] at this | exact this) GW178.out) | (rw [add_block]; exact Nat.ne_of_lt (Nat.lt_of_lt_of_le (by have := World.block_lt_of_cell? _ _ hw206_0; first | rwa [add_block] at this | exact this) GW178.out)) | (show (Addr.add _ _).block ≠ _; rw [add_block]; exact Nat.ne_of_lt (Nat.lt_of_lt_of_le (by have := World.block_lt_of_cell? _ _ hw206_0; first | rwa [add_block] at this | exact this) GW178.out)) | (dsimp only; exact Nat.ne_of_lt (Nat.lt_of_lt_of_le (by have := World.block_lt_of_cell? _ _ hw206_0; first | rwa [add_block] at this | exact this) GW178.out))) _).trans (hHeld.2.2.2.2.2.2.2.2.2.2.2.2))))))))⟩ (fun hHeld => ?_)
           clear hK K
           refine pu 7 3 (ba 9 255) HT_ ?_
           refine one_ (i := 8) (N := none) (ba 9 511) rfl rfl (one_of HT_.out (by kernel_rfl)) (by decide) (fun K hK => ?_)
           have hs126 : w118.cell? ⟨gb179, 0, none⟩ = some (.bool false) := bc BK179.out
           have hfs126 := z1 BK179.out
           have hns126_0 := NB177_179.out
           have hns126_1 := NB178_179.out
           have hns126_3 := NB180_179.out
           have hns126_4 := NB181_179.out
           have hms126_0 := NB179_177.out
           have hms126_1 := NB179_178.out
           have hms126_3 := NB179_180.out
           have hms126_4 := NB179_181.out
           have hs128 : w118.cell? ⟨gb179, 1, none⟩ = some (.slice none 0 0) := bc BK179.out
           have hfs128 := blk_frozen BK179.out 1
           have hns128_0 := NB177_179.out
           have hns128_1 := NB178_179.out
           have hns128_3 := NB180_179.out
           have hns128_4 := NB181_179.out
           have hms128_0 := NB179_177.out
           have hms128_1 := NB179_178.out
           have hms128_3 := NB179_180.out
           have hms128_4 := NB179_181.out
           have hs130 : w118.cell? ⟨gb179, 2, none⟩ = some (.slice none 0 0) := bc BK179.out
           have hfs130 := blk_frozen BK179.out 2
           have hns130_0 := NB177_179.out
           have hns130_1 := NB178_179.out
           have hns130_3 := NB180_179.out
           have hns130_4 := NB181_179.out
           have hms130_0 := NB179_177.out
           have hms130_1 := NB179_178.out
           have hms130_3 := NB179_180.out
           have hms130_4 := NB179_181.out
           have hs132 : w118.cell? ⟨gb179, 3, none⟩ = some (.slice none 0 0) := bc BK179.out
           have hfs132 := blk_frozen BK179.out 3
           have hns132_0 := NB177_179.out
           have hns132_1 := NB178_179.out
           have hns132_3 := NB180_179.out
           have hns132_4 := NB181_179.out
           have hms132_0 := NB179_177.out
           have hms132_1 := NB179_178.out
           have hms132_3 := NB179_180.out
           have hms132_4 := NB179_181.out
           refine skip_ (w1 := ?_) (by rfl) rfl ?_ ?_
           rotate_left
           ·
            go_simp
            rfl
           refine hK.out _ _ ⟨((cell_far (p := ⟨gb179, _, none⟩) NB180_179.out _).trans (((cell_far (p := ⟨gb179, _, none⟩) NB180_179.out _).trans (((cell_far (p := ⟨gb179, _, none⟩) NB180_179.out _).trans (((cell_far (p := ⟨gb179, _, none⟩) NB180_179.out _).trans (hHeld.1)))))))), ((cell_far (p := ⟨gb179, _, none⟩) NB180_179.out _).trans (((cell_far (p := ⟨gb179, _, none⟩) NB180_179.out _).trans (((cell_far (p := ⟨gb179, _, none⟩) NB180_179.out _).trans (((cell_far (p := ⟨gb179, _, none⟩) NB180_179.out _).trans (hHeld.2.1)))))))), ((cell_far (p := ⟨gb179, _, none⟩) NB180_179.out _).trans (((cell_far (p := ⟨gb179, _, none⟩) NB180_179.out _).trans (((cell_far (p := ⟨gb179, _, none⟩) NB180_179.out _).trans (((cell_far (p := ⟨gb179, _, none⟩) NB180_179.out _).trans (hHeld.2.2.1)))))))), ((cell_far (p := ⟨gb179, _, none⟩) NB180_179.out _).trans (((cell_far (p := ⟨gb179, _, none⟩) NB180_179.out _).trans (((cell_far (p := ⟨gb179, _, none⟩) NB180_179.out _).trans (((cell_far (p := ⟨gb179, _, none⟩) NB180_179.out _).trans (hHeld.2.2.2.1)))))))), ((cell_far (p := ⟨gb179, _, none⟩) NB177_179.out _).trans (((cell_far (p := ⟨gb179, _, none⟩) NB177_179.out _).trans (((cell_far (p := ⟨gb179, _, none⟩) NB177_179.out _).trans (((cell_far (p := ⟨gb179, _, none⟩) NB177_179.out _).trans (hHeld.2.2.2.2.1)))))))), ((cell_far (p := ⟨gb179, _, none⟩) NB177_179.out _).trans (((cell_far (p := ⟨gb179, _, none⟩) NB177_179.out _).trans (((cell_far (p := ⟨gb179, _, none⟩) NB177_179.out _).trans (((cell_far (p := ⟨gb179, _, none⟩) NB177_179.out _).trans (hHeld.2.2.2.2.2.1)))))))), ((cell_far (p := ⟨gb179, _, none⟩) NB177_179.out _).trans (((cell_far (p := ⟨gb179, _, none⟩) NB177_179.out _).trans (((cell_far (p := ⟨gb179, _, none⟩) NB177_179.out _).trans (((cell_far (p := ⟨gb179, _, none⟩) NB177_179.out _).trans (hHeld.2.2.2.2.2.2.1)))))))), ((cell_far (p := ⟨gb179, _, none⟩) NB177_179.out _).trans (((cell_far (p := ⟨gb179, _, none⟩) NB177_179.out _).trans (((cell_far (p := ⟨gb179, _, none⟩) NB177_179.out _).trans (((cell_far (p := ⟨gb179, _, none⟩) NB177_179.out _).trans (hHeld.2.2.2.2.2.2.2.1)))))))), ((cell_far (p := ⟨gb179, _, none⟩) NB181_179.out _).trans (((cell_far (p := ⟨gb179, _, none⟩) NB181_179.out _).trans (((cell_far (p := ⟨gb179, _, none⟩) NB181_179.out _).trans (((cell_far (p := ⟨gb179, _, none⟩) NB181_179.out _).trans (hHeld.2.2.2.2.2.2.2.2.1)))))))), ((cell_far (p := ⟨gb179, _, none⟩) NB181_179.out _).trans (((cell_far (p := ⟨gb179, _, none⟩) NB181_179.out _).trans (((cell_far (p := ⟨gb179, _, none⟩) NB181_179.out _).trans (((cell_far (p := ⟨gb179, _, none⟩) NB181_179.out _).trans (hHeld.2.2.2.2.2.2.2.2.2.1)))))))), ((cell_far (p := ⟨gb179, _, none⟩) NB181_179.out _).trans (((cell_far (p := ⟨gb179, _, none⟩) NB181_179.out _).trans (((cell_far (p := ⟨gb179, _, none⟩) NB181_179.out _).trans (((cell_far (p := ⟨gb179, _, none⟩) NB181_179.out _).trans (hHeld.2.2.2.2.2.2.2.2.2.2.1)))))))), ((cell_far (p := ⟨gb179, _, none⟩) NB181_179.out _).trans (((cell_far (p := ⟨gb179, _, none⟩) NB181_179.out _).trans (((cell_far (p := ⟨gb179, _, none⟩) NB181_179.out _).trans (((cell_far (p := ⟨gb179, _, none⟩) NB181_179.out _).trans (hHeld.2.2.2.2.2.2.2.2.2.2.2.1)))))))), ((cell_far (p := ⟨gb179, _, none⟩) (by first | exact Nat.ne_of_lt (Nat.lt_of_lt_of_le (by have := World.block_lt_of_cell? _ _ hw206_0; first | rwa [add_block] at this | exact this) GW179.out) | (rw [add_block]; exact Nat.ne_of_lt (Nat.lt_of_lt_of_le (by have := World.block_lt_of_cell? _ _ hw206_0; first | rwa [add_block] at this | exact this) GW179.out)) | (show (Addr.add _ _).block ≠ _; rw [add_block]; exact Nat.ne_of_lt (Nat.lt_of_lt_of_le (by have := World.block_lt_of_cell? _ _ hw206_0; first | rwa [add_block] at this | exact this) GW179.out)) | (dsimp only; exact Nat.ne_of_lt (Nat.lt_of_lt_of_le (by have := World.block_lt_of_cell? _ _ hw206_0; first | rwa [add_block] at this | exact this) GW179.out))) _).trans (((cell_far (p := ⟨gb179, _, none⟩) (by first | exact Nat.ne_of_lt (Nat.lt_of_lt_of_le (by have := World.block_lt_of_cell? _ _ hw206_0; first | rwa [add_block] at this | exact this) GW179.out) | (rw [add_block]; exact Nat.ne_of_lt (Nat.lt_of_lt_of_le (by have := World.block_lt_of_cell? _ _ hw206_0; first | rwa [add_block] at this | exact this) GW179.out)) | (show (Addr.add _ _).block ≠ _; rw [add_block]; exact Nat.ne_of_lt (Nat.lt_of_lt_of_le (by have := World.block_lt_of_cell? _ _ hw206_0; first | rwa [add_block] at this | exact this) GW179.out)) | (dsimp only; exact Nat.ne_of_lt (Nat.lt_of_lt_of_le (by have := World.block_lt_of_cell? _ _ hw206_0; first | rwa [add_block] at this | exact this) GW179.out))) _).trans (((cell_far (p := ⟨gb179, _, none⟩) (by first | exact Nat.ne_of_lt (Nat.lt_of_lt_of_le (by have := World.block_lt_of_cell? _ _ hw206_0; first | rwa [add_block] at this | exact this) GW179.out) | (rw [add_block]; exact Nat.ne_of_lt (Nat.lt_of_lt_of_le (by have := World.block_lt_of_cell? _ _ hw206_0; first | rwa [add_block] at this | exact this) GW179.out)) | (show (Addr.add _ _).block ≠ _; rw [add_block]; exact Nat.ne_of_lt (Nat.lt_of_lt_of_le (by have := World.block_lt_of_cell? _ _ hw206_0; first | rwa [add_block] at this | exact this) GW179.out)) | (dsimp only; exact Nat.ne_of_lt (Nat.lt_of_lt_of_le (by have := World.block_lt_of_cell? _ _ hw206_0; first | rwa [add_block] at this | exact this) GW179.out))) _).trans (((cell_far (p := ⟨gb179, _, none⟩) (by first | exact Nat.ne_of_lt (Nat.lt_of_lt_of_le (by have := World.block_lt_of_cell? _ _ hw206_0; first | rwa [add_block] at this | exact this) GW179.out) | (rw [add_block]; exact Nat.ne_of_lt (Nat.lt_of_lt_of_le (by have := World.block_lt_of_cell? _ _ hw206_0; first | rwa [add_block] at this | exact this) GW179.out)) | (show (Addr.add _ _).block ≠ _; rw [add_block]; exact Nat.ne_of_lt (Nat.lt_of_lt_of_le (by have := World.block_lt_of_cell? _ _ hw206_0; first | rwa [add_block] at this | exact this) GW179.out)) | (dsimp only; exact Nat.ne_of_lt (Nat.lt_of_lt_of_le (by have := World.block_lt_of_cell? _ _ hw206_0; first | rwa [add_block] at this | exact this) GW179.out))) _).trans (hHeld.2.2.2.2.2.2.2.2.2.2.2.2))))))))⟩ (fun hHeld => ?_)
           clear hK K
           refine done_ (done_of HT_.out (by kernel_rfl)) ?_
           try go_wp2
           refine bodyPost_ret (results_list (rs := [.cell 2 25, .tmp 3, .cell 4 25]) rfl (by simp) (.cell gb178 25 #[.bool a0_0, .slice Ao120 x181001_1.length co120, .slice Ao122 x181002_2.length co122, .slice Ao124 x181003_3.length co124] (0, 0) _ rfl (pP BK178.out) Try.underlying25 rfl (by kernel_rfl) (.tmp (.cell gb179 25 #[.bool a0_0, .slice Ao127 x182001_1.length co127, .slice Ao129 x182002_2.length co129, .slice Ao131 x182003_3.length co131] (0, 0) _ rfl (pP BK179.out) Try.underlying25 rfl (by kernel_rfl) .nil)))) rfl ?_
           exact ⟨_, _, _, _, _, _, by first | rfl | (simp [errW_none, errW_some] <;> rfl) | (simp [*, errW_none, errW_some] <;> rfl), by exact Kd.R_mono (pR (Kd.R_types (Kd.R_types HO_181001.out BK178.out (by decide)) BK179.out (by decide))) (fun _ hk => ⟨hk.1.1.1, ⟨hk.1.1.2.1, hk.1.1.2.2⟩⟩), by exact Kd.R_mono (pR (Kd.R_types (Kd.R_types HO_181002.out BK178.out (by decide)) BK179.out (by decide))) (fun _ hk => ⟨hk.1.1.1, ⟨hk.1.1.2.1, hk.1.1.2.2⟩⟩), by exact Kd.R_mono (pR (Kd.R_types (Kd.R_types HO_181003.out BK178.out (by decide)) BK179.out (by decide))) (fun _ hk => hk.1.1), by exact Kd.R_mono (pR (Kd.R_types (Kd.R_types HO_182001.out BK178.out (by decide)) BK179.out (by decide))) (fun _ hk => ⟨hk.1.1.1, ⟨hk.1.1.2.1, hk.1.1.2.2⟩⟩), by exact Kd.R_mono (pR (Kd.R_types (Kd.R_types HO_182002.out BK178.out (by decide)) BK179.out (by decide))) (fun _ hk => ⟨hk.1.1.1, ⟨hk.1.1.2.1, hk.1.1.2.2⟩⟩), by exact Kd.R_mono (pR (Kd.R_types (Kd.R_types HO_182003.out BK178.out (by decide)) BK179.out (by decide))) (fun _ hk => hk.1.1), pB HB.out⟩
          ·
           rw [if_neg c117] at H
           exact absurd H (by simp)

end Go.Proofs.Ytmnkabdaapiikaa.C
