/- A node parted (node.Cut): what the machine's call comes to, as a plain function. -/
import Derived.Test.YtmnkabdaapiikaaXRt
import Derived.Test.YtmnkabdaapiikaaXRows
import Derived.Deep.LoopGhost
import Derived.BigRegion
import Derived.Test.YtmnkabdaapiikaaSq
namespace Go.Proofs.Ytmnkabdaapiikaa
open Go.RowKit Go.Proofs.YtmnkabdaapiikaaW.PrintWords Go.Proofs.YtmnkabdaapiikaaW.PrintLast Go.Proofs.YtmnkabdaapiikaaW.PrintMore Go.Proofs.YtmnkabdaapiikaaW.Sq
set_option linter.unusedVariables false
set_option linter.unusedSimpArgs false

abbrev set4 (w : World) (g : Nat) (u0 u1 u2 u3 : Value) : World := (((w.setCell ⟨g, 0, none⟩ u0).setCell ⟨g, 1, none⟩ u1).setCell ⟨g, 2, none⟩ u2).setCell ⟨g, 3, none⟩ u3
section
variable {w w0 : World} {g g' b base e ty : Nat} {o : Obj} {c0 c1 c2 c3 u0 u1 u2 u3 v : Value} {ok : Nat → Prop} {α : Type} {d : Kd α} {xs : List α} {cs : Array Value}
theorem set4_put (h : w.heap[g]? = some (.cells #[c0, c1, c2, c3] ty (0, 0))) : (set4 w g u0 u1 u2 u3).heap[g]? = some (.cells #[u0, u1, u2, u3] ty (0, 0)) :=
 blk_put (cs := #[u0, u1, u2, c3]) (blk_put (cs := #[u0, u1, c2, c3]) (blk_put (cs := #[u0, c1, c2, c3]) (blk_put (cs := #[c0, c1, c2, c3]) h 0 _ rfl) 1 _ rfl) 2 _ rfl) 3 _ rfl
theorem set4_far (h : w.heap[g']? = some (.cells cs ty (0, 0))) (n : g' ≠ g) : (set4 w g u0 u1 u2 u3).heap[g']? = some (.cells cs ty (0, 0)) := blk_far (blk_far (blk_far (blk_far h n _) n _) n _) n _
theorem set4_below (h : Below w0.heap.size w0 w) (hg : w0.heap.size ≤ g) : Below w0.heap.size w0 (set4 w g u0 u1 u2 u3) := below_set (below_set (below_set (below_set h hg) hg) hg) hg
theorem set4_R (h : Kd.R d e w base ok v xs) (hb : w.heap[g]? = some (.cells cs ty (0, 0))) (ht : ∀ q, q ∈ e :: d.E → q ≠ ty) : Kd.R d e (set4 w g u0 u1 u2 u3) base ok v xs :=
 Kd.R_mono (Kd.R_far (p := ⟨g, 3, none⟩) (Kd.R_far (p := ⟨g, 2, none⟩) (Kd.R_far (p := ⟨g, 1, none⟩) (Kd.R_far (p := ⟨g, 0, none⟩) (Kd.R_types h hb ht) (fun _ h => h.2) u0) (fun _ h => h.2) u1) (fun _ h => h.2) u2) (fun _ h => h.2) u3) (fun _ h => h.1)
end
theorem C_one_row {α : Type} {d : Kd α} {e : Nat} {w : World} {g n c ty : Nat} {A : Option Addr} {xs : List α} (hl : n = xs.length) (hc : n ≤ c) (h : Kd.C d w A xs.length xs) (hb : w.heap[g]? = some (.cells #[.slice A n c] ty (0, 0))) : Kd.C (Kd.slice e d) w (some ⟨g, 0, none⟩) 1 [xs] :=
 ⟨rfl, by decide, fun _ => ⟨⟨g, 0, none⟩, rfl, fun j p hj => by
  match j, hj with
  | 0, hj =>
   injection hj with hj
   subst hj
   subst hl
   refine ⟨[.slice A xs.length c], rfl, ⟨A, c, rfl, hc, h⟩, fun i u hu => ?_⟩
   match i, hu with
   | 0, hu =>
    injection hu with hu
    subst hu
    exact bc hb⟩⟩
theorem C_new_ss (w : World) {n c : Nat} {A : Option Addr} {xs : List ByteArray} (hl : n = xs.length) (hc : n ≤ c) (h : Kd.C Kd.string w A xs.length xs) : Kd.C (Kd.slice 9 Kd.string) (w.alloc (.cells #[.slice A n c] 22 (0, 0))) (some ⟨w.heap.size, 0, none⟩) 1 [xs] := C_one_row hl hc (Kd.C_alloc h _) (blk_new w _)
theorem C_new_si (w : World) {n c : Nat} {A : Option Addr} {xs : List Int} (hl : n = xs.length) (hc : n ≤ c) (h : Kd.C (Kd.int .i64) w A xs.length xs) : Kd.C (Kd.slice 3 (Kd.int .i64)) (w.alloc (.cells #[.slice A n c] 23 (0, 0))) (some ⟨w.heap.size, 0, none⟩) 1 [xs] := C_one_row hl hc (Kd.C_alloc h _) (blk_new w _)
def node_Cut.f (k : Nat) (lf : Bool) (Ks Vs : List ByteArray) (Cs : List Int) : Option (Bool × List ByteArray × List ByteArray × List Int × ByteArray × Bool × List ByteArray × List ByteArray × List Int × Int) :=
 (node_stands.f k lf Ks Vs Cs).bind fun b => if b = true then (if Ks.length = 9 then (if lf = true then (if 4 ≤ Vs.length then
   (node_rows_string.f k [Ks.take 4]).bind fun k1 => (node_rows_string.f k [Vs.take 4]).bind fun v1 => (node_rows_string.f k [Ks.drop 4]).bind fun k2 => (node_rows_string.f k [Vs.drop 4]).bind fun v2 => some (true, k1, v1, [], rdOf ByteArray.empty Ks 4, true, k2, v2, [], 0) else none)
  else (if 5 ≤ Cs.length then (node_rows_string.f k [Ks.take 4]).bind fun k1 => (node_rows_int.f k [Cs.take 5]).bind fun v1 => (node_rows_string.f k [Ks.drop 5]).bind fun k2 => (node_rows_int.f k [Cs.drop 5]).bind fun v2 => some (false, k1, [], v1, rdOf ByteArray.empty Ks 4, false, k2, [], v2, 0) else none))
  else some (false, [], [], [], ⟨#[]⟩, false, [], [], [], 1)) else some (false, [], [], [], ⟨#[]⟩, false, [], [], [], 1)
theorem node_Cut.mono : ∀ lf Ks Vs Cs k, LeO (node_Cut.f k lf Ks Vs Cs) (node_Cut.f (k + 1) lf Ks Vs Cs) := by
 intro lf Ks Vs Cs k
 unfold node_Cut.f
 exact LeO.bind (node_stands.mono _ _ _ _ _) fun _ => LeO.ite (LeO.ite (LeO.ite (LeO.ite (LeO.bind (node_rows_string.mono _ _) fun _ => LeO.bind (node_rows_string.mono _ _) fun _ => LeO.bind (node_rows_string.mono _ _) fun _ => LeO.bind (node_rows_string.mono _ _) fun _ => LeO.refl _) (LeO.refl _)) (LeO.ite (LeO.bind (node_rows_string.mono _ _) fun _ => LeO.bind (node_rows_int.mono _ _) fun _ => LeO.bind (node_rows_string.mono _ _) fun _ => LeO.bind (node_rows_int.mono _ _) fun _ => LeO.refl _) (LeO.refl _))) (LeO.refl _)) (LeO.refl _)
set_option maxHeartbeats 8000000 in
set_option maxRecDepth 100000 in
theorem node_Cut.calls (k : Nat) (lf : Bool) (A1 : Option Addr) (c1 : Nat) (Ks : List ByteArray) (A2 : Option Addr) (c2 : Nat) (Vs : List ByteArray) (A3 : Option Addr) (c3 : Nat) (Cs : List Int) (r1 : Bool) (r2 r3 : List ByteArray) (r4 : List Int) (r5 : ByteArray) (r6 : Bool) (r7 r8 : List ByteArray) (r9 : List Int) (r10 : Int) (w : World)
  (hr1 : Kd.C Kd.string w A1 Ks.length Ks) (hc1 : Ks.length ≤ c1) (hr2 : Kd.C Kd.string w A2 Vs.length Vs) (hc2 : Vs.length ≤ c2) (hr3 : Kd.C (Kd.int .i64) w A3 Cs.length Cs) (hc3 : Cs.length ≤ c3) (h : node_Cut.f k lf Ks Vs Cs = some (r1, r2, r3, r4, r5, r6, r7, r8, r9, r10)) :
  Calls Try.prog 24 #[.agg #[.bool lf, .slice A1 Ks.length c1, .slice A2 Vs.length c2, .slice A3 Cs.length c3]] w fun e w' => ∃ v1 v2 v3 u1 u2 u3 : Value, e = .returned (.tuple #[.agg #[.bool r1, v1, v2, v3], .string r5, .agg #[.bool r6, u1, u2, u3], .int .i64 r10]) ∧
   Kd.R Kd.string 9 w' w.heap.size (fun _ => True) v1 r2 ∧ Kd.R Kd.string 9 w' w.heap.size (fun _ => True) v2 r3 ∧ Kd.R (Kd.int .i64) 3 w' w.heap.size (fun _ => True) v3 r4 ∧ Kd.R Kd.string 9 w' w.heap.size (fun _ => True) u1 r7 ∧ Kd.R Kd.string 9 w' w.heap.size (fun _ => True) u2 r8 ∧ Kd.R (Kd.int .i64) 3 w' w.heap.size (fun _ => True) u3 r9 ∧ Below w.heap.size w w' := by
 have hu25 := Try.underlying25
 have HR1 := am hr1
 have HC1 := am hc1
 have HR2 := am hr2
 have HC2 := am hc2
 have HR3 := am hr3
 have HC3 := am hc3
 have HB := am (Below.refl w.heap.size w)
 clear hr1 hc1 hr2 hc2 hr3 hc3
 unfold node_Cut.f at h
 obtain ⟨b, hs, h⟩ := Option.bind_eq_some_iff.1 h
 have S1 := am hs
 clear hs
 go_enter Try.func24, Try.ntmps24
 go_upto_region 1 with (first | ((with_reducible refine gate_dst (N := 1) rfl ?_); refine bx 1 #[.bool lf, .slice A1 Ks.length c1, .slice A2 Vs.length c2, .slice A3 Cs.length c3] 25 ?_; intro g1 hg w1 hbox hb; have NB := am (below_step (pB HB.out) hb); have G1 := am (show w.heap.size ≤ g1 by rw [hg]; exact below_size (pB HB.out)); clear HB; have HB := NB; have B1 := am hbox; clear NB hb hbox hg) | ((with_reducible refine gate_dst (N := 2) rfl ?_); refine bx 2 #[.bool false, .slice none 0 0, .slice none 0 0, .slice none 0 0] 25 ?_; intro g2 hg w2 hbox hb; have NB := am (below_step (pB HB.out) hb); have G2 := am (show w.heap.size ≤ g2 by rw [hg]; exact below_size (pB HB.out)); have XB1 := am (blk_below (o := .cells #[.bool lf, .slice A1 Ks.length c1, .slice A2 Vs.length c2, .slice A3 Cs.length c3] 25 (0, 0)) (pk B1.out) hb); have N12 := am (show g1 ≠ g2 by rw [hg]; exact Nat.ne_of_lt (blk_lt (o := .cells #[.bool lf, .slice A1 Ks.length c1, .slice A2 Vs.length c2, .slice A3 Cs.length c3] 25 (0, 0)) (pk B1.out))); clear HB; have HB := NB; clear B1; have B1 := XB1; clear XB1; have B2 := am hbox; clear NB hb hbox hg) | ((with_reducible refine gate_dst (N := 4) rfl ?_); refine bx 4 #[.bool false, .slice none 0 0, .slice none 0 0, .slice none 0 0] 25 ?_; intro g4 hg w3 hbox hb; have NB := am (below_step (pB HB.out) hb); have G4 := am (show w.heap.size ≤ g4 by rw [hg]; exact below_size (pB HB.out)); have XB1 := am (blk_below (o := .cells #[.bool lf, .slice A1 Ks.length c1, .slice A2 Vs.length c2, .slice A3 Cs.length c3] 25 (0, 0)) (pk B1.out) hb); have N14 := am (show g1 ≠ g4 by rw [hg]; exact Nat.ne_of_lt (blk_lt (o := .cells #[.bool lf, .slice A1 Ks.length c1, .slice A2 Vs.length c2, .slice A3 Cs.length c3] 25 (0, 0)) (pk B1.out))); have XB2 := am (blk_below (o := .cells #[.bool false, .slice none 0 0, .slice none 0 0, .slice none 0 0] 25 (0, 0)) (pk B2.out) hb); have N24 := am (show g2 ≠ g4 by rw [hg]; exact Nat.ne_of_lt (blk_lt (o := .cells #[.bool false, .slice none 0 0, .slice none 0 0, .slice none 0 0] 25 (0, 0)) (pk B2.out))); clear HB; have HB := NB; clear B1; have B1 := XB1; clear XB1 B2; have B2 := XB2; clear XB2; have B4 := am hbox; clear NB hb hbox hg; have e0_ : w3.cell? ⟨g1, 0, none⟩ = some (.bool lf) := bc B1.out; have e1_ : w3.cell? ⟨g1, 1, none⟩ = some (.slice A1 Ks.length c1) := bc B1.out; have e2_ : w3.cell? ⟨g1, 2, none⟩ = some (.slice A2 Vs.length c2) := bc B1.out; have e3_ : w3.cell? ⟨g1, 3, none⟩ = some (.slice A3 Cs.length c3) := bc B1.out))
 have N42 := am N24.out.symm
 have n24 := N24.out
 have n42 := N24.out.symm
 cases b
 case false =>
  rw [if_neg (by simp)] at h
  rw [Option.some.injEq] at h
  simp only [Prod.mk.injEq] at h
  obtain ⟨rfl, rfl, rfl, rfl, rfl, rfl, rfl, rfl, rfl, rfl⟩ := h
  go_wp2_with (go_at_call 32; refine (node_stands.calls k lf _ _ Ks _ _ Vs _ _ Cs false _ (by repeat (first | exact (Kd.C_below HR1.out HB.out) | (with_reducible refine Kd.C_alloc ?_ _) | (with_reducible refine Kd.C_drewN ?_ _) | (with_reducible refine Kd.C_drew ?_))) HC1.out (by repeat (first | exact (Kd.C_below HR2.out HB.out) | (with_reducible refine Kd.C_alloc ?_ _) | (with_reducible refine Kd.C_drewN ?_ _) | (with_reducible refine Kd.C_drew ?_))) HC2.out (by repeat (first | exact (Kd.C_below HR3.out HB.out) | (with_reducible refine Kd.C_alloc ?_ _) | (with_reducible refine Kd.C_drewN ?_ _) | (with_reducible refine Kd.C_drew ?_))) HC3.out S1.out).mono ?_; rintro e w4 ⟨rfl, hb⟩; have XB1 := am (blk_below (o := .cells #[.bool lf, .slice A1 Ks.length c1, .slice A2 Vs.length c2, .slice A3 Cs.length c3] 25 (0, 0)) (pk B1.out) hb); have XB2 := am (blk_below (o := .cells #[.bool false, .slice none 0 0, .slice none 0 0, .slice none 0 0] 25 (0, 0)) (pk B2.out) hb); have XB4 := am (blk_below (o := .cells #[.bool false, .slice none 0 0, .slice none 0 0, .slice none 0 0] 25 (0, 0)) (pk B4.out) hb); have XB := am (below_step (pB HB.out) hb); clear hb B1 B2 B4 HB; have B1 := XB1; have B2 := XB2; have B4 := XB4; have HB := XB; clear XB1 XB2 XB4 XB; have z0 : w4.cell? ⟨g2, 0, none⟩ = some (.bool false) := bc B2.out; have z1 : w4.cell? ⟨g2, 1, none⟩ = some (.slice none 0 0) := bc B2.out; have z2 : w4.cell? ⟨g2, 2, none⟩ = some (.slice none 0 0) := bc B2.out; have z3 : w4.cell? ⟨g2, 3, none⟩ = some (.slice none 0 0) := bc B2.out; obtain ⟨zf0, zf1, zf2, zf3⟩ := z4 B2.out; have y0 : w4.cell? ⟨g4, 0, none⟩ = some (.bool false) := bc B4.out; have y1 : w4.cell? ⟨g4, 1, none⟩ = some (.slice none 0 0) := bc B4.out; have y2 : w4.cell? ⟨g4, 2, none⟩ = some (.slice none 0 0) := bc B4.out; have y3 : w4.cell? ⟨g4, 3, none⟩ = some (.slice none 0 0) := bc B4.out; obtain ⟨yf0, yf1, yf2, yf3⟩ := z4 B4.out)
  refine bodyPost_ret (results_list (rs := [.cell 2 25, .tmp 3, .cell 4 25, .tmp 5]) rfl (by simp) (.cell g2 25 #[.bool false, .slice none 0 0, .slice none 0 0, .slice none 0 0] (0, 0) _ rfl (set4_far (set4_put B2.out) N24.out) Try.underlying25 rfl (by kernel_rfl) (.tmp (.cell g4 25 #[.bool false, .slice none 0 0, .slice none 0 0, .slice none 0 0] (0, 0) _ rfl (set4_put (set4_far B4.out N42.out)) Try.underlying25 rfl (by kernel_rfl) (.tmp .nil))))) rfl ?_
  exact ⟨_, _, _, _, _, _, rfl, Kd.R_nil _ _ _ _ _, Kd.R_nil _ _ _ _ _, Kd.R_nil _ _ _ _ _, Kd.R_nil _ _ _ _ _, Kd.R_nil _ _ _ _ _, Kd.R_nil _ _ _ _ _, set4_below (set4_below HB.out G2.out) G4.out⟩
 rw [if_pos rfl] at h
 by_cases c9 : Ks.length = 9
 case neg =>
  rw [if_neg c9] at h
  rw [Option.some.injEq] at h
  simp only [Prod.mk.injEq] at h
  obtain ⟨rfl, rfl, rfl, rfl, rfl, rfl, rfl, rfl, rfl, rfl⟩ := h
  have c9b : ((Ks.length : Int) != 9) = true := bne_iff_ne.mpr (by omega)
  go_wp2_with (go_at_call 32; refine (node_stands.calls k lf _ _ Ks _ _ Vs _ _ Cs true _ (by repeat (first | exact (Kd.C_below HR1.out HB.out) | (with_reducible refine Kd.C_alloc ?_ _) | (with_reducible refine Kd.C_drewN ?_ _) | (with_reducible refine Kd.C_drew ?_))) HC1.out (by repeat (first | exact (Kd.C_below HR2.out HB.out) | (with_reducible refine Kd.C_alloc ?_ _) | (with_reducible refine Kd.C_drewN ?_ _) | (with_reducible refine Kd.C_drew ?_))) HC2.out (by repeat (first | exact (Kd.C_below HR3.out HB.out) | (with_reducible refine Kd.C_alloc ?_ _) | (with_reducible refine Kd.C_drewN ?_ _) | (with_reducible refine Kd.C_drew ?_))) HC3.out S1.out).mono ?_; rintro e w4 ⟨rfl, hb⟩; have XB1 := am (blk_below (o := .cells #[.bool lf, .slice A1 Ks.length c1, .slice A2 Vs.length c2, .slice A3 Cs.length c3] 25 (0, 0)) (pk B1.out) hb); have XB2 := am (blk_below (o := .cells #[.bool false, .slice none 0 0, .slice none 0 0, .slice none 0 0] 25 (0, 0)) (pk B2.out) hb); have XB4 := am (blk_below (o := .cells #[.bool false, .slice none 0 0, .slice none 0 0, .slice none 0 0] 25 (0, 0)) (pk B4.out) hb); have XB := am (below_step (pB HB.out) hb); clear hb B1 B2 B4 HB; have B1 := XB1; have B2 := XB2; have B4 := XB4; have HB := XB; clear XB1 XB2 XB4 XB; have e0_ : w4.cell? ⟨g1, 0, none⟩ = some (.bool lf) := bc B1.out; have e1_ : w4.cell? ⟨g1, 1, none⟩ = some (.slice A1 Ks.length c1) := bc B1.out; have e2_ : w4.cell? ⟨g1, 2, none⟩ = some (.slice A2 Vs.length c2) := bc B1.out; have e3_ : w4.cell? ⟨g1, 3, none⟩ = some (.slice A3 Cs.length c3) := bc B1.out; have z0 : w4.cell? ⟨g2, 0, none⟩ = some (.bool false) := bc B2.out; have z1 : w4.cell? ⟨g2, 1, none⟩ = some (.slice none 0 0) := bc B2.out; have z2 : w4.cell? ⟨g2, 2, none⟩ = some (.slice none 0 0) := bc B2.out; have z3 : w4.cell? ⟨g2, 3, none⟩ = some (.slice none 0 0) := bc B2.out; obtain ⟨zf0, zf1, zf2, zf3⟩ := z4 B2.out; have y0 : w4.cell? ⟨g4, 0, none⟩ = some (.bool false) := bc B4.out; have y1 : w4.cell? ⟨g4, 1, none⟩ = some (.slice none 0 0) := bc B4.out; have y2 : w4.cell? ⟨g4, 2, none⟩ = some (.slice none 0 0) := bc B4.out; have y3 : w4.cell? ⟨g4, 3, none⟩ = some (.slice none 0 0) := bc B4.out; obtain ⟨yf0, yf1, yf2, yf3⟩ := z4 B4.out)
  refine bodyPost_ret (results_list (rs := [.cell 2 25, .tmp 3, .cell 4 25, .tmp 5]) rfl (by simp) (.cell g2 25 #[.bool false, .slice none 0 0, .slice none 0 0, .slice none 0 0] (0, 0) _ rfl (set4_far (set4_put B2.out) N24.out) Try.underlying25 rfl (by kernel_rfl) (.tmp (.cell g4 25 #[.bool false, .slice none 0 0, .slice none 0 0, .slice none 0 0] (0, 0) _ rfl (set4_put (set4_far B4.out N42.out)) Try.underlying25 rfl (by kernel_rfl) (.tmp .nil))))) rfl ?_
  exact ⟨_, _, _, _, _, _, rfl, Kd.R_nil _ _ _ _ _, Kd.R_nil _ _ _ _ _, Kd.R_nil _ _ _ _ _, Kd.R_nil _ _ _ _ _, Kd.R_nil _ _ _ _ _, Kd.R_nil _ _ _ _ _, set4_below (set4_below HB.out G2.out) G4.out⟩
 rw [if_pos c9] at h
 have c9b : ((Ks.length : Int) != 9) = false := bne_eq_false_iff_eq.mpr (by omega)
 obtain ⟨ad, rfl, hx4⟩ := Kd.at_string HR1.out 4 (by omega) (by omega)
 have HL4 := am (show 4 ≤ Ks.length by omega)
 have HC4 := am (show 9 ≤ c1 by have := HC1.out; omega)
 have p4 : (4 : Int) < (Ks.length : Int) := by omega
 have p4b : decide ((4 : Int) < (Ks.length : Int)) = true := decide_eq_true p4
 have HL9 := am c9
 have b1_ : (4 : Int) ≤ (c1 : Int) := by (have := HC1.out; omega)
 have b2_ : (5 : Int) ≤ (c1 : Int) := by (have := HC1.out; omega)
 have b3_ : (4 : Int) ≤ (Ks.length : Int) := by omega
 have b4_ : (5 : Int) ≤ (Ks.length : Int) := by omega
 have b5_ : (Ks.length : Int) ≤ (c1 : Int) := by (have := HC1.out; omega)
 clear c9
 cases lf
 case false =>
  rw [if_neg (by simp)] at h
  by_cases cv : 5 ≤ Cs.length
  case neg => rw [if_neg cv] at h; cases h
  rw [if_pos cv] at h
  have HV4 := am cv
  have v1b : (5 : Int) ≤ (Cs.length : Int) := by omega
  have v2b : (5 : Int) ≤ (c3 : Int) := by (have := HC3.out; omega)
  have v3b : (Cs.length : Int) ≤ (c3 : Int) := by (have := HC3.out; omega)
  clear cv
  obtain ⟨k1_, q0, h⟩ := Option.bind_eq_some_iff.1 h
  have T1 := am q0
  clear q0
  obtain ⟨v1_, q1, h⟩ := Option.bind_eq_some_iff.1 h
  have T2 := am q1
  clear q1
  obtain ⟨k2_, q2, h⟩ := Option.bind_eq_some_iff.1 h
  have T3 := am q2
  clear q2
  obtain ⟨v2_, q3, h⟩ := Option.bind_eq_some_iff.1 h
  have T4 := am q3
  clear q3
  simp only [Option.some.injEq, Prod.mk.injEq] at h
  obtain ⟨rfl, rfl, rfl, rfl, rfl, rfl, rfl, rfl, rfl, rfl⟩ := h
  go_upto_region 7 with (go_at_call 32; refine (node_stands.calls k false _ _ Ks _ _ Vs _ _ Cs true _ (by repeat (first | exact (Kd.C_below HR1.out HB.out) | (with_reducible refine Kd.C_alloc ?_ _) | (with_reducible refine Kd.C_drewN ?_ _) | (with_reducible refine Kd.C_drew ?_))) HC1.out (by repeat (first | exact (Kd.C_below HR2.out HB.out) | (with_reducible refine Kd.C_alloc ?_ _) | (with_reducible refine Kd.C_drewN ?_ _) | (with_reducible refine Kd.C_drew ?_))) HC2.out (by repeat (first | exact (Kd.C_below HR3.out HB.out) | (with_reducible refine Kd.C_alloc ?_ _) | (with_reducible refine Kd.C_drewN ?_ _) | (with_reducible refine Kd.C_drew ?_))) HC3.out S1.out).mono ?_; rintro e w4 ⟨rfl, hb⟩; have XB1 := am (blk_below (o := .cells #[.bool false, .slice (some ad) Ks.length c1, .slice A2 Vs.length c2, .slice A3 Cs.length c3] 25 (0, 0)) (pk B1.out) hb); have XB2 := am (blk_below (o := .cells #[.bool false, .slice none 0 0, .slice none 0 0, .slice none 0 0] 25 (0, 0)) (pk B2.out) hb); have XB4 := am (blk_below (o := .cells #[.bool false, .slice none 0 0, .slice none 0 0, .slice none 0 0] 25 (0, 0)) (pk B4.out) hb); have XB := am (below_step (pB HB.out) hb); clear hb B1 B2 B4 HB; have B1 := XB1; have B2 := XB2; have B4 := XB4; have HB := XB; clear XB1 XB2 XB4 XB; have e0_ : w4.cell? ⟨g1, 0, none⟩ = some (.bool false) := bc B1.out; have e1_ : w4.cell? ⟨g1, 1, none⟩ = some (.slice (some ad) Ks.length c1) := bc B1.out; have e2_ : w4.cell? ⟨g1, 2, none⟩ = some (.slice A2 Vs.length c2) := bc B1.out; have e3_ : w4.cell? ⟨g1, 3, none⟩ = some (.slice A3 Cs.length c3) := bc B1.out; replace hx4 := (HB.out.cell (World.block_lt_of_cell? w _ hx4)).trans hx4; have hx5 : w4.cell? ⟨ad.block, ad.off + 4, none⟩ = some (.string (rdOf ByteArray.empty Ks 4)) := hx4)
  replace HB := am (below_drew1 HB.out)
  replace B1 := am (blk_drew B1.out)
  replace B2 := am (blk_drew B2.out)
  replace B4 := am (blk_drew B4.out)
  refine start_ (n := 13) (S := fun w' => w'.cell? ⟨g1, 1, none⟩ = some (.slice (some ad) Ks.length c1) ∧ w'.cell? ⟨g1, 3, none⟩ = some (.slice A3 Cs.length c3)) (ds := [12]) (ba 13 0) (by kernel_rfl) rfl rfl ⟨((blk_cell (B1.out) 1).trans rfl), ((blk_cell (B1.out) 3).trans rfl)⟩ (fun hHeld => ?_)
  generalize w4.drew = p5 at HB B1 B2 B4 hHeld ⊢
  refine pure_ (i := 0) (N := some 50) (v := ?_) (a' := ?_) (ba 13 1) rfl rfl (by kernel_rfl) (fun _ _ _ h => h) (Or.inl ⟨by rfl, ?_⟩) ?_ ?_
  rotate_left
  ·
   intro w'
   go_simp
   with_reducible rfl
  rotate_left
  ·
   simp only [Act.put, List.setIfInBounds_toArray, List.set_cons_zero, List.set_cons_succ, i64_w, i32_w]
   rfl
  refine pure_ (i := 5) (N := some 55) (v := ?_) (a' := ?_) (ba 13 33) rfl rfl (by kernel_rfl) (fun _ _ _ h => h) (Or.inl ⟨by rfl, ?_⟩) ?_ ?_
  rotate_left
  ·
   intro w'
   go_simp
   with_reducible rfl
  rotate_left
  ·
   simp only [Act.put, List.setIfInBounds_toArray, List.set_cons_zero, List.set_cons_succ, i64_w, i32_w]
   rfl
  refine take_ (i := 1) (N := some 51) (v := ?_) (a' := ?_) (ba 13 35) rfl rfl (by kernel_rfl) (fun _ _ _ h => h) (Or.inl ⟨by rfl, ?_⟩) hHeld ?_ ?_
  rotate_left
  ·
   rintro w' ⟨s0, s1⟩
   go_simp
   with_reducible rfl
  rotate_left
  ·
   simp only [Act.put, List.setIfInBounds_toArray, List.set_cons_zero, List.set_cons_succ, i64_w, i32_w]
   rfl
  refine pure_ (i := 2) (N := some 52) (v := ?_) (a' := ?_) (ba 13 39) rfl rfl (by kernel_rfl) (fun _ _ _ h => h) (Or.inl ⟨by rfl, ?_⟩) ?_ ?_
  rotate_left
  ·
   intro w'
   go_simp
   with_reducible rfl
  rotate_left
  ·
   simp only [Act.put, List.setIfInBounds_toArray, List.set_cons_zero, List.set_cons_succ, i64_w, i32_w]
   rfl
  refine take_ (i := 6) (N := some 56) (v := ?_) (a' := ?_) (ba 13 103) rfl rfl (by kernel_rfl) (fun _ _ _ h => h) (Or.inl ⟨by rfl, ?_⟩) hHeld ?_ ?_
  rotate_left
  ·
   rintro w' ⟨s0, s1⟩
   go_simp
   with_reducible rfl
  rotate_left
  ·
   simp only [Act.put, List.setIfInBounds_toArray, List.set_cons_zero, List.set_cons_succ, i64_w, i32_w]
   rfl
  refine pure_ (i := 7) (N := some 57) (v := ?_) (a' := ?_) (ba 13 231) rfl rfl (by kernel_rfl) (fun _ _ _ h => h) (Or.inl ⟨by rfl, ?_⟩) ?_ ?_
  rotate_left
  ·
   intro w'
   go_simp
   with_reducible rfl
  rotate_left
  ·
   simp only [Act.put, List.setIfInBounds_toArray, List.set_cons_zero, List.set_cons_succ, i64_w, i32_w]
   rfl
  refine join_ (σ := Nat × (Option Addr × Nat) × Nat × (Option Addr × Nat) × Nat) 1 (ba 13 4095) (fun s_ => [(53, .slice (some ⟨s_.1, 0, none⟩) 1 1), (54, .slice (s_.2.1).1 k1_.length (s_.2.1).2), (58, .slice (some ⟨s_.2.2.1, 0, none⟩) 1 1), (59, .slice (s_.2.2.2.1).1 v1_.length (s_.2.2.2.1).2), (8, .pointer (some ⟨s_.2.2.2.2, 0, none⟩)), (60, .agg #[.bool false, .slice (s_.2.1).1 k1_.length (s_.2.1).2, .slice none 0 0, .slice (s_.2.2.2.1).1 v1_.length (s_.2.2.2.1).2])]) (fun s_ w' => (w'.cell? ⟨g1, 1, none⟩ = some (.slice (some ad) Ks.length c1) ∧ w'.cell? ⟨g1, 3, none⟩ = some (.slice A3 Cs.length c3)) ∧ (Below w.heap.size w w') ∧ (w'.heap[g1]? = some (.cells #[.bool false, .slice (some ad) Ks.length c1, .slice A2 Vs.length c2, .slice A3 Cs.length c3] 25 (0, 0))) ∧ (w'.heap[g2]? = some (.cells #[.bool false, .slice none 0 0, .slice none 0 0, .slice none 0 0] 25 (0, 0))) ∧ (w'.heap[g4]? = some (.cells #[.bool false, .slice none 0 0, .slice none 0 0, .slice none 0 0] 25 (0, 0))) ∧ (Kd.R Kd.string 9 w' w.heap.size (fun _ => True) (.slice (s_.2.1).1 k1_.length (s_.2.1).2) k1_) ∧ (Kd.R (Kd.int .i64) 3 w' w.heap.size (fun _ => True) (.slice (s_.2.2.2.1).1 v1_.length (s_.2.2.2.1).2) v1_) ∧ (w'.heap[s_.2.2.2.2]? = some (.cells #[.bool false, .slice none 0 0, .slice none 0 0, .slice none 0 0] 25 (0, 0))) ∧ (g1 ≠ s_.2.2.2.2) ∧ (g2 ≠ s_.2.2.2.2) ∧ (g4 ≠ s_.2.2.2.2) ∧ (w.heap.size ≤ s_.2.2.2.2)) ?_ ?_
  rotate_left
  ·
   intro hJ3_4_8_9_11
   refine join_ (σ := Nat × (Option Addr × Nat) × Nat × (Option Addr × Nat)) 2 (ba 13 2047) (fun s_ => [(53, .slice (some ⟨s_.1, 0, none⟩) 1 1), (54, .slice (s_.2.1).1 k1_.length (s_.2.1).2), (58, .slice (some ⟨s_.2.2.1, 0, none⟩) 1 1), (59, .slice (s_.2.2.2).1 v1_.length (s_.2.2.2).2), (60, .agg #[.bool false, .slice (s_.2.1).1 k1_.length (s_.2.1).2, .slice none 0 0, .slice (s_.2.2.2).1 v1_.length (s_.2.2.2).2])]) (fun s_ w' => (w'.cell? ⟨g1, 1, none⟩ = some (.slice (some ad) Ks.length c1) ∧ w'.cell? ⟨g1, 3, none⟩ = some (.slice A3 Cs.length c3)) ∧ (Below w.heap.size w w') ∧ (w'.heap[g1]? = some (.cells #[.bool false, .slice (some ad) Ks.length c1, .slice A2 Vs.length c2, .slice A3 Cs.length c3] 25 (0, 0))) ∧ (w'.heap[g2]? = some (.cells #[.bool false, .slice none 0 0, .slice none 0 0, .slice none 0 0] 25 (0, 0))) ∧ (w'.heap[g4]? = some (.cells #[.bool false, .slice none 0 0, .slice none 0 0, .slice none 0 0] 25 (0, 0))) ∧ (Kd.R Kd.string 9 w' w.heap.size (fun _ => True) (.slice (s_.2.1).1 k1_.length (s_.2.1).2) k1_) ∧ (Kd.R (Kd.int .i64) 3 w' w.heap.size (fun _ => True) (.slice (s_.2.2.2).1 v1_.length (s_.2.2.2).2) v1_)) ?_ ?_
   rotate_left
   ·
    intro hJ3_4_8_9
    refine join_ (σ := Nat × (Option Addr × Nat) × Nat × Nat) 3 (ba 13 2559) (fun s_ => [(53, .slice (some ⟨s_.1, 0, none⟩) 1 1), (54, .slice (s_.2.1).1 k1_.length (s_.2.1).2), (58, .slice (some ⟨s_.2.2.1, 0, none⟩) 1 1), (8, .pointer (some ⟨s_.2.2.2, 0, none⟩))]) (fun s_ w' => (w'.cell? ⟨g1, 1, none⟩ = some (.slice (some ad) Ks.length c1) ∧ w'.cell? ⟨g1, 3, none⟩ = some (.slice A3 Cs.length c3)) ∧ (Below w.heap.size w w') ∧ (w'.heap[g1]? = some (.cells #[.bool false, .slice (some ad) Ks.length c1, .slice A2 Vs.length c2, .slice A3 Cs.length c3] 25 (0, 0))) ∧ (w'.heap[g2]? = some (.cells #[.bool false, .slice none 0 0, .slice none 0 0, .slice none 0 0] 25 (0, 0))) ∧ (w'.heap[g4]? = some (.cells #[.bool false, .slice none 0 0, .slice none 0 0, .slice none 0 0] 25 (0, 0))) ∧ (Kd.R Kd.string 9 w' w.heap.size (fun _ => True) (.slice (s_.2.1).1 k1_.length (s_.2.1).2) k1_) ∧ (Kd.C (Kd.slice 3 (Kd.int .i64)) w' (some ⟨s_.2.2.1, 0, none⟩) 1 [Cs.take 5]) ∧ (w'.heap[s_.2.2.2]? = some (.cells #[.bool false, .slice none 0 0, .slice none 0 0, .slice none 0 0] 25 (0, 0))) ∧ (g1 ≠ s_.2.2.2) ∧ (g2 ≠ s_.2.2.2) ∧ (g4 ≠ s_.2.2.2) ∧ (w.heap.size ≤ s_.2.2.2)) ?_ ?_
    rotate_left
    ·
     intro hJ3_4_8_11
     refine join_ (σ := Nat × (Option Addr × Nat) × Nat) 4 (ba 13 511) (fun s_ => [(53, .slice (some ⟨s_.1, 0, none⟩) 1 1), (54, .slice (s_.2.1).1 k1_.length (s_.2.1).2), (58, .slice (some ⟨s_.2.2, 0, none⟩) 1 1)]) (fun s_ w' => (w'.cell? ⟨g1, 1, none⟩ = some (.slice (some ad) Ks.length c1) ∧ w'.cell? ⟨g1, 3, none⟩ = some (.slice A3 Cs.length c3)) ∧ (Below w.heap.size w w') ∧ (w'.heap[g1]? = some (.cells #[.bool false, .slice (some ad) Ks.length c1, .slice A2 Vs.length c2, .slice A3 Cs.length c3] 25 (0, 0))) ∧ (w'.heap[g2]? = some (.cells #[.bool false, .slice none 0 0, .slice none 0 0, .slice none 0 0] 25 (0, 0))) ∧ (w'.heap[g4]? = some (.cells #[.bool false, .slice none 0 0, .slice none 0 0, .slice none 0 0] 25 (0, 0))) ∧ (Kd.R Kd.string 9 w' w.heap.size (fun _ => True) (.slice (s_.2.1).1 k1_.length (s_.2.1).2) k1_) ∧ (Kd.C (Kd.slice 3 (Kd.int .i64)) w' (some ⟨s_.2.2, 0, none⟩) 1 [Cs.take 5])) ?_ ?_
     rotate_left
     ·
      intro hJ3_4_8
      refine join_ (σ := Nat × (Option Addr × Nat) × Nat) 4 (ba 13 2303) (fun s_ => [(53, .slice (some ⟨s_.1, 0, none⟩) 1 1), (54, .slice (s_.2.1).1 k1_.length (s_.2.1).2), (8, .pointer (some ⟨s_.2.2, 0, none⟩))]) (fun s_ w' => (w'.cell? ⟨g1, 1, none⟩ = some (.slice (some ad) Ks.length c1) ∧ w'.cell? ⟨g1, 3, none⟩ = some (.slice A3 Cs.length c3)) ∧ (Below w.heap.size w w') ∧ (w'.heap[g1]? = some (.cells #[.bool false, .slice (some ad) Ks.length c1, .slice A2 Vs.length c2, .slice A3 Cs.length c3] 25 (0, 0))) ∧ (w'.heap[g2]? = some (.cells #[.bool false, .slice none 0 0, .slice none 0 0, .slice none 0 0] 25 (0, 0))) ∧ (w'.heap[g4]? = some (.cells #[.bool false, .slice none 0 0, .slice none 0 0, .slice none 0 0] 25 (0, 0))) ∧ (Kd.R Kd.string 9 w' w.heap.size (fun _ => True) (.slice (s_.2.1).1 k1_.length (s_.2.1).2) k1_) ∧ (w'.heap[s_.2.2]? = some (.cells #[.bool false, .slice none 0 0, .slice none 0 0, .slice none 0 0] 25 (0, 0))) ∧ (g1 ≠ s_.2.2) ∧ (g2 ≠ s_.2.2) ∧ (g4 ≠ s_.2.2) ∧ (w.heap.size ≤ s_.2.2)) ?_ ?_
      rotate_left
      ·
       intro hJ3_4_11
       refine join_ (σ := Nat × Nat × Nat) 4 (ba 13 2543) (fun s_ => [(53, .slice (some ⟨s_.1, 0, none⟩) 1 1), (58, .slice (some ⟨s_.2.1, 0, none⟩) 1 1), (8, .pointer (some ⟨s_.2.2, 0, none⟩))]) (fun s_ w' => (w'.cell? ⟨g1, 1, none⟩ = some (.slice (some ad) Ks.length c1) ∧ w'.cell? ⟨g1, 3, none⟩ = some (.slice A3 Cs.length c3)) ∧ (Below w.heap.size w w') ∧ (w'.heap[g1]? = some (.cells #[.bool false, .slice (some ad) Ks.length c1, .slice A2 Vs.length c2, .slice A3 Cs.length c3] 25 (0, 0))) ∧ (w'.heap[g2]? = some (.cells #[.bool false, .slice none 0 0, .slice none 0 0, .slice none 0 0] 25 (0, 0))) ∧ (w'.heap[g4]? = some (.cells #[.bool false, .slice none 0 0, .slice none 0 0, .slice none 0 0] 25 (0, 0))) ∧ (Kd.C (Kd.slice 9 Kd.string) w' (some ⟨s_.1, 0, none⟩) 1 [Ks.take 4]) ∧ (Kd.C (Kd.slice 3 (Kd.int .i64)) w' (some ⟨s_.2.1, 0, none⟩) 1 [Cs.take 5]) ∧ (w'.heap[s_.2.2]? = some (.cells #[.bool false, .slice none 0 0, .slice none 0 0, .slice none 0 0] 25 (0, 0))) ∧ (g1 ≠ s_.2.2) ∧ (g2 ≠ s_.2.2) ∧ (g4 ≠ s_.2.2) ∧ (w.heap.size ≤ s_.2.2)) ?_ ?_
       rotate_left
       ·
        intro hJ3_8_11
        refine join_ (σ := Nat × (Option Addr × Nat)) 5 (ba 13 255) (fun s_ => [(53, .slice (some ⟨s_.1, 0, none⟩) 1 1), (54, .slice (s_.2).1 k1_.length (s_.2).2)]) (fun s_ w' => (w'.cell? ⟨g1, 1, none⟩ = some (.slice (some ad) Ks.length c1) ∧ w'.cell? ⟨g1, 3, none⟩ = some (.slice A3 Cs.length c3)) ∧ (Below w.heap.size w w') ∧ (w'.heap[g1]? = some (.cells #[.bool false, .slice (some ad) Ks.length c1, .slice A2 Vs.length c2, .slice A3 Cs.length c3] 25 (0, 0))) ∧ (w'.heap[g2]? = some (.cells #[.bool false, .slice none 0 0, .slice none 0 0, .slice none 0 0] 25 (0, 0))) ∧ (w'.heap[g4]? = some (.cells #[.bool false, .slice none 0 0, .slice none 0 0, .slice none 0 0] 25 (0, 0))) ∧ (Kd.R Kd.string 9 w' w.heap.size (fun _ => True) (.slice (s_.2).1 k1_.length (s_.2).2) k1_)) ?_ ?_
        rotate_left
        ·
         intro hJ3_4
         refine join_ (σ := Nat × Nat) 5 (ba 13 495) (fun s_ => [(53, .slice (some ⟨s_.1, 0, none⟩) 1 1), (58, .slice (some ⟨s_.2, 0, none⟩) 1 1)]) (fun s_ w' => (w'.cell? ⟨g1, 1, none⟩ = some (.slice (some ad) Ks.length c1) ∧ w'.cell? ⟨g1, 3, none⟩ = some (.slice A3 Cs.length c3)) ∧ (Below w.heap.size w w') ∧ (w'.heap[g1]? = some (.cells #[.bool false, .slice (some ad) Ks.length c1, .slice A2 Vs.length c2, .slice A3 Cs.length c3] 25 (0, 0))) ∧ (w'.heap[g2]? = some (.cells #[.bool false, .slice none 0 0, .slice none 0 0, .slice none 0 0] 25 (0, 0))) ∧ (w'.heap[g4]? = some (.cells #[.bool false, .slice none 0 0, .slice none 0 0, .slice none 0 0] 25 (0, 0))) ∧ (Kd.C (Kd.slice 9 Kd.string) w' (some ⟨s_.1, 0, none⟩) 1 [Ks.take 4]) ∧ (Kd.C (Kd.slice 3 (Kd.int .i64)) w' (some ⟨s_.2, 0, none⟩) 1 [Cs.take 5])) ?_ ?_
         rotate_left
         ·
          intro hJ3_8
          refine join_ (σ := Nat × Nat) 5 (ba 13 2287) (fun s_ => [(53, .slice (some ⟨s_.1, 0, none⟩) 1 1), (8, .pointer (some ⟨s_.2, 0, none⟩))]) (fun s_ w' => (w'.cell? ⟨g1, 1, none⟩ = some (.slice (some ad) Ks.length c1) ∧ w'.cell? ⟨g1, 3, none⟩ = some (.slice A3 Cs.length c3)) ∧ (Below w.heap.size w w') ∧ (w'.heap[g1]? = some (.cells #[.bool false, .slice (some ad) Ks.length c1, .slice A2 Vs.length c2, .slice A3 Cs.length c3] 25 (0, 0))) ∧ (w'.heap[g2]? = some (.cells #[.bool false, .slice none 0 0, .slice none 0 0, .slice none 0 0] 25 (0, 0))) ∧ (w'.heap[g4]? = some (.cells #[.bool false, .slice none 0 0, .slice none 0 0, .slice none 0 0] 25 (0, 0))) ∧ (Kd.C (Kd.slice 9 Kd.string) w' (some ⟨s_.1, 0, none⟩) 1 [Ks.take 4]) ∧ (w'.heap[s_.2]? = some (.cells #[.bool false, .slice none 0 0, .slice none 0 0, .slice none 0 0] 25 (0, 0))) ∧ (g1 ≠ s_.2) ∧ (g2 ≠ s_.2) ∧ (g4 ≠ s_.2) ∧ (w.heap.size ≤ s_.2)) ?_ ?_
          rotate_left
          ·
           intro hJ3_11
           refine join_ (σ := Nat × Nat) 5 (ba 13 2535) (fun s_ => [(58, .slice (some ⟨s_.1, 0, none⟩) 1 1), (8, .pointer (some ⟨s_.2, 0, none⟩))]) (fun s_ w' => (w'.cell? ⟨g1, 1, none⟩ = some (.slice (some ad) Ks.length c1) ∧ w'.cell? ⟨g1, 3, none⟩ = some (.slice A3 Cs.length c3)) ∧ (Below w.heap.size w w') ∧ (w'.heap[g1]? = some (.cells #[.bool false, .slice (some ad) Ks.length c1, .slice A2 Vs.length c2, .slice A3 Cs.length c3] 25 (0, 0))) ∧ (w'.heap[g2]? = some (.cells #[.bool false, .slice none 0 0, .slice none 0 0, .slice none 0 0] 25 (0, 0))) ∧ (w'.heap[g4]? = some (.cells #[.bool false, .slice none 0 0, .slice none 0 0, .slice none 0 0] 25 (0, 0))) ∧ (Kd.C (Kd.slice 3 (Kd.int .i64)) w' (some ⟨s_.1, 0, none⟩) 1 [Cs.take 5]) ∧ (w'.heap[s_.2]? = some (.cells #[.bool false, .slice none 0 0, .slice none 0 0, .slice none 0 0] 25 (0, 0))) ∧ (g1 ≠ s_.2) ∧ (g2 ≠ s_.2) ∧ (g4 ≠ s_.2) ∧ (w.heap.size ≤ s_.2)) ?_ ?_
           rotate_left
           ·
            intro hJ8_11
            refine join_ (σ := Nat) 6 (ba 13 239) (fun s_ => [(53, .slice (some ⟨s_, 0, none⟩) 1 1)]) (fun s_ w' => (w'.cell? ⟨g1, 1, none⟩ = some (.slice (some ad) Ks.length c1) ∧ w'.cell? ⟨g1, 3, none⟩ = some (.slice A3 Cs.length c3)) ∧ (Below w.heap.size w w') ∧ (w'.heap[g1]? = some (.cells #[.bool false, .slice (some ad) Ks.length c1, .slice A2 Vs.length c2, .slice A3 Cs.length c3] 25 (0, 0))) ∧ (w'.heap[g2]? = some (.cells #[.bool false, .slice none 0 0, .slice none 0 0, .slice none 0 0] 25 (0, 0))) ∧ (w'.heap[g4]? = some (.cells #[.bool false, .slice none 0 0, .slice none 0 0, .slice none 0 0] 25 (0, 0))) ∧ (Kd.C (Kd.slice 9 Kd.string) w' (some ⟨s_, 0, none⟩) 1 [Ks.take 4])) ?_ ?_
            rotate_left
            ·
             intro hJ3
             refine join_ (σ := Nat) 6 (ba 13 487) (fun s_ => [(58, .slice (some ⟨s_, 0, none⟩) 1 1)]) (fun s_ w' => (w'.cell? ⟨g1, 1, none⟩ = some (.slice (some ad) Ks.length c1) ∧ w'.cell? ⟨g1, 3, none⟩ = some (.slice A3 Cs.length c3)) ∧ (Below w.heap.size w w') ∧ (w'.heap[g1]? = some (.cells #[.bool false, .slice (some ad) Ks.length c1, .slice A2 Vs.length c2, .slice A3 Cs.length c3] 25 (0, 0))) ∧ (w'.heap[g2]? = some (.cells #[.bool false, .slice none 0 0, .slice none 0 0, .slice none 0 0] 25 (0, 0))) ∧ (w'.heap[g4]? = some (.cells #[.bool false, .slice none 0 0, .slice none 0 0, .slice none 0 0] 25 (0, 0))) ∧ (Kd.C (Kd.slice 3 (Kd.int .i64)) w' (some ⟨s_, 0, none⟩) 1 [Cs.take 5])) ?_ ?_
             rotate_left
             ·
              intro hJ8
              refine join_ (σ := Nat) 6 (ba 13 2279) (fun s_ => [(8, .pointer (some ⟨s_, 0, none⟩))]) (fun s_ w' => (w'.cell? ⟨g1, 1, none⟩ = some (.slice (some ad) Ks.length c1) ∧ w'.cell? ⟨g1, 3, none⟩ = some (.slice A3 Cs.length c3)) ∧ (Below w.heap.size w w') ∧ (w'.heap[g1]? = some (.cells #[.bool false, .slice (some ad) Ks.length c1, .slice A2 Vs.length c2, .slice A3 Cs.length c3] 25 (0, 0))) ∧ (w'.heap[g2]? = some (.cells #[.bool false, .slice none 0 0, .slice none 0 0, .slice none 0 0] 25 (0, 0))) ∧ (w'.heap[g4]? = some (.cells #[.bool false, .slice none 0 0, .slice none 0 0, .slice none 0 0] 25 (0, 0))) ∧ (w'.heap[s_]? = some (.cells #[.bool false, .slice none 0 0, .slice none 0 0, .slice none 0 0] 25 (0, 0))) ∧ (g1 ≠ s_) ∧ (g2 ≠ s_) ∧ (g4 ≠ s_) ∧ (w.heap.size ≤ s_)) ?_ ?_
              rotate_left
              ·
               intro hJ11
               refine three_ (i := 3) (j := 8) (k := 11) (Ni := some 53) (Nj := some 58) (Nk := some 8) (ba 13 239) (ba 13 487) (ba 13 2279) rfl rfl rfl rfl rfl rfl (by kernel_rfl) (by decide) (by decide) (by decide) (fun K hK => ?_) (fun K hK => ?_) (fun K hK => ?_)
               ·
                skip
                refine value_ (w1 := ?_) (v := ?_) (by rfl) rfl ?_ ?_
                rotate_left 2
                ·
                 go_simp
                 constructor
                 ·
                  rfl
                 ·
                  rfl
                refine hK.out _ _ ⟨((blk_cell (blk_alloc B1.out _) 1).trans rfl), ((blk_cell (blk_alloc B1.out _) 3).trans rfl)⟩ (fun hHeld => ?_)
                clear hK K
                refine norm_ (a' := ?_) ?_ ?_
                rotate_left
                ·
                 show Act.put _ (some 53) _ = _
                 simp only [Act.put, List.setIfInBounds_toArray, List.set_cons_zero, List.set_cons_succ, i64_w, i32_w]
                 rfl
                exact norm_ (by first | (simp only [putAll, Act.put, List.setIfInBounds_toArray, List.set_cons_zero, List.set_cons_succ]; done) | (simp only [putAll, Act.put, List.setIfInBounds_toArray, List.set_cons_zero, List.set_cons_succ]; rfl)) (hJ3 (p5.heap.size) _ ⟨hHeld, below_alloc HB.out _, blk_alloc B1.out _, blk_alloc B2.out _, blk_alloc B4.out _, C_new_ss p5 (by rw [List.length_take]; have := HL9.out; omega) (Nat.le_trans (by decide) HC4.out) (Kd.C_take (Kd.C_below HR1.out HB.out) HL4.out)⟩)
               ·
                skip
                refine value_ (w1 := ?_) (v := ?_) (by rfl) rfl ?_ ?_
                rotate_left 2
                ·
                 go_simp
                 constructor
                 ·
                  rfl
                 ·
                  rfl
                refine hK.out _ _ ⟨((blk_cell (blk_alloc B1.out _) 1).trans rfl), ((blk_cell (blk_alloc B1.out _) 3).trans rfl)⟩ (fun hHeld => ?_)
                clear hK K
                refine norm_ (a' := ?_) ?_ ?_
                rotate_left
                ·
                 show Act.put _ (some 58) _ = _
                 simp only [Act.put, List.setIfInBounds_toArray, List.set_cons_zero, List.set_cons_succ, i64_w, i32_w]
                 rfl
                exact norm_ (by first | (simp only [putAll, Act.put, List.setIfInBounds_toArray, List.set_cons_zero, List.set_cons_succ]; done) | (simp only [putAll, Act.put, List.setIfInBounds_toArray, List.set_cons_zero, List.set_cons_succ]; rfl)) (hJ8 (p5.heap.size) _ ⟨hHeld, below_alloc HB.out _, blk_alloc B1.out _, blk_alloc B2.out _, blk_alloc B4.out _, C_new_si p5 (by rw [List.length_take]; have := HV4.out; omega) (Nat.le_trans HV4.out HC3.out) (Kd.C_take (Kd.C_below HR3.out HB.out) HV4.out)⟩)
               ·
                skip
                refine value_ (w1 := ?_) (v := ?_) (by rfl) rfl ?_ ?_
                rotate_left 2
                ·
                 go_simp
                 constructor
                 ·
                  rfl
                 ·
                  rfl
                refine hK.out _ _ ⟨((blk_cell (blk_alloc B1.out _) 1).trans rfl), ((blk_cell (blk_alloc B1.out _) 3).trans rfl)⟩ (fun hHeld => ?_)
                clear hK K
                refine norm_ (a' := ?_) ?_ ?_
                rotate_left
                ·
                 show Act.put _ (some 8) _ = _
                 simp only [Act.put, List.setIfInBounds_toArray, List.set_cons_zero, List.set_cons_succ, i64_w, i32_w]
                 rfl
                exact norm_ (by first | (simp only [putAll, Act.put, List.setIfInBounds_toArray, List.set_cons_zero, List.set_cons_succ]; done) | (simp only [putAll, Act.put, List.setIfInBounds_toArray, List.set_cons_zero, List.set_cons_succ]; rfl)) (hJ11 (p5.heap.size) _ ⟨hHeld, below_alloc HB.out _, blk_alloc B1.out _, blk_alloc B2.out _, blk_alloc B4.out _, blk_new p5 _, Nat.ne_of_lt (blk_lt B1.out), Nat.ne_of_lt (blk_lt B2.out), Nat.ne_of_lt (blk_lt B4.out), below_size HB.out⟩)
              ·
               skip
               rintro g7 p5_11 ⟨hS_, h0_, h1_, h2_, h3_, h4_, h5_, h6_, h7_, h8_⟩
               have HB : Aside0 (Below w.heap.size w p5_11) := ⟨h0_⟩
               have B1 : Aside0 (p5_11.heap[g1]? = some (.cells #[.bool false, .slice (some ad) Ks.length c1, .slice A2 Vs.length c2, .slice A3 Cs.length c3] 25 (0, 0))) := ⟨h1_⟩
               have B2 : Aside0 (p5_11.heap[g2]? = some (.cells #[.bool false, .slice none 0 0, .slice none 0 0, .slice none 0 0] 25 (0, 0))) := ⟨h2_⟩
               have B4 : Aside0 (p5_11.heap[g4]? = some (.cells #[.bool false, .slice none 0 0, .slice none 0 0, .slice none 0 0] 25 (0, 0))) := ⟨h3_⟩
               have B7 : Aside0 (p5_11.heap[g7]? = some (.cells #[.bool false, .slice none 0 0, .slice none 0 0, .slice none 0 0] 25 (0, 0))) := ⟨h4_⟩
               have NE1 : Aside0 (g1 ≠ g7) := ⟨h5_⟩
               have NE2 : Aside0 (g2 ≠ g7) := ⟨h6_⟩
               have NE4 : Aside0 (g4 ≠ g7) := ⟨h7_⟩
               have G7 : Aside0 (w.heap.size ≤ g7) := ⟨h8_⟩
               have hHeld : p5_11.cell? ⟨g1, 1, none⟩ = some (.slice (some ad) Ks.length c1) ∧ p5_11.cell? ⟨g1, 3, none⟩ = some (.slice A3 Cs.length c3) := hS_
               refine norm_ (a' := ?_) ?_ ?_
               rotate_left
               ·
                simp only [putAll, Act.put, List.setIfInBounds_toArray, List.set_cons_zero, List.set_cons_succ]
                rfl
               refine two_ (i := 3) (j := 8) (Ni := some 53) (Nj := some 58) (ba 13 2287) (ba 13 2535) rfl rfl rfl rfl (by kernel_rfl) (by decide) (by decide) (fun K hK => ?_) (fun K hK => ?_)
               ·
                skip
                refine value_ (w1 := ?_) (v := ?_) (by rfl) rfl ?_ ?_
                rotate_left 2
                ·
                 go_simp
                 constructor
                 ·
                  rfl
                 ·
                  rfl
                refine hK.out _ _ ⟨((blk_cell (blk_alloc B1.out _) 1).trans rfl), ((blk_cell (blk_alloc B1.out _) 3).trans rfl)⟩ (fun hHeld => ?_)
                clear hK K
                refine norm_ (a' := ?_) ?_ ?_
                rotate_left
                ·
                 show Act.put _ (some 53) _ = _
                 simp only [Act.put, List.setIfInBounds_toArray, List.set_cons_zero, List.set_cons_succ, i64_w, i32_w]
                 rfl
                exact norm_ (by first | (simp only [putAll, Act.put, List.setIfInBounds_toArray, List.set_cons_zero, List.set_cons_succ]; done) | (simp only [putAll, Act.put, List.setIfInBounds_toArray, List.set_cons_zero, List.set_cons_succ]; rfl)) (hJ3_11 (p5_11.heap.size, g7) _ ⟨hHeld, below_alloc HB.out _, blk_alloc B1.out _, blk_alloc B2.out _, blk_alloc B4.out _, C_new_ss p5_11 (by rw [List.length_take]; have := HL9.out; omega) (Nat.le_trans (by decide) HC4.out) (Kd.C_take (Kd.C_below HR1.out HB.out) HL4.out), blk_alloc B7.out _, NE1.out, NE2.out, NE4.out, G7.out⟩)
               ·
                skip
                refine value_ (w1 := ?_) (v := ?_) (by rfl) rfl ?_ ?_
                rotate_left 2
                ·
                 go_simp
                 constructor
                 ·
                  rfl
                 ·
                  rfl
                refine hK.out _ _ ⟨((blk_cell (blk_alloc B1.out _) 1).trans rfl), ((blk_cell (blk_alloc B1.out _) 3).trans rfl)⟩ (fun hHeld => ?_)
                clear hK K
                refine norm_ (a' := ?_) ?_ ?_
                rotate_left
                ·
                 show Act.put _ (some 58) _ = _
                 simp only [Act.put, List.setIfInBounds_toArray, List.set_cons_zero, List.set_cons_succ, i64_w, i32_w]
                 rfl
                exact norm_ (by first | (simp only [putAll, Act.put, List.setIfInBounds_toArray, List.set_cons_zero, List.set_cons_succ]; done) | (simp only [putAll, Act.put, List.setIfInBounds_toArray, List.set_cons_zero, List.set_cons_succ]; rfl)) (hJ8_11 (p5_11.heap.size, g7) _ ⟨hHeld, below_alloc HB.out _, blk_alloc B1.out _, blk_alloc B2.out _, blk_alloc B4.out _, C_new_si p5_11 (by rw [List.length_take]; have := HV4.out; omega) (Nat.le_trans HV4.out HC3.out) (Kd.C_take (Kd.C_below HR3.out HB.out) HV4.out), blk_alloc B7.out _, NE1.out, NE2.out, NE4.out, G7.out⟩)
             ·
              skip
              rintro gb p5_8 ⟨hS_, h0_, h1_, h2_, h3_, h4_⟩
              have HB : Aside0 (Below w.heap.size w p5_8) := ⟨h0_⟩
              have B1 : Aside0 (p5_8.heap[g1]? = some (.cells #[.bool false, .slice (some ad) Ks.length c1, .slice A2 Vs.length c2, .slice A3 Cs.length c3] 25 (0, 0))) := ⟨h1_⟩
              have B2 : Aside0 (p5_8.heap[g2]? = some (.cells #[.bool false, .slice none 0 0, .slice none 0 0, .slice none 0 0] 25 (0, 0))) := ⟨h2_⟩
              have B4 : Aside0 (p5_8.heap[g4]? = some (.cells #[.bool false, .slice none 0 0, .slice none 0 0, .slice none 0 0] 25 (0, 0))) := ⟨h3_⟩
              have BB : Aside0 (Kd.C (Kd.slice 3 (Kd.int .i64)) p5_8 (some ⟨gb, 0, none⟩) 1 [Cs.take 5]) := ⟨h4_⟩
              have hHeld : p5_8.cell? ⟨g1, 1, none⟩ = some (.slice (some ad) Ks.length c1) ∧ p5_8.cell? ⟨g1, 3, none⟩ = some (.slice A3 Cs.length c3) := hS_
              refine norm_ (a' := ?_) ?_ ?_
              rotate_left
              ·
               simp only [putAll, Act.put, List.setIfInBounds_toArray, List.set_cons_zero, List.set_cons_succ]
               rfl
              refine two_ (i := 3) (j := 11) (Ni := some 53) (Nj := some 8) (ba 13 495) (ba 13 2535) rfl rfl rfl rfl (by kernel_rfl) (by decide) (by decide) (fun K hK => ?_) (fun K hK => ?_)
              ·
               skip
               refine value_ (w1 := ?_) (v := ?_) (by rfl) rfl ?_ ?_
               rotate_left 2
               ·
                go_simp
                constructor
                ·
                 rfl
                ·
                 rfl
               refine hK.out _ _ ⟨((blk_cell (blk_alloc B1.out _) 1).trans rfl), ((blk_cell (blk_alloc B1.out _) 3).trans rfl)⟩ (fun hHeld => ?_)
               clear hK K
               refine norm_ (a' := ?_) ?_ ?_
               rotate_left
               ·
                show Act.put _ (some 53) _ = _
                simp only [Act.put, List.setIfInBounds_toArray, List.set_cons_zero, List.set_cons_succ, i64_w, i32_w]
                rfl
               exact norm_ (by first | (simp only [putAll, Act.put, List.setIfInBounds_toArray, List.set_cons_zero, List.set_cons_succ]; done) | (simp only [putAll, Act.put, List.setIfInBounds_toArray, List.set_cons_zero, List.set_cons_succ]; rfl)) (hJ3_8 (p5_8.heap.size, gb) _ ⟨hHeld, below_alloc HB.out _, blk_alloc B1.out _, blk_alloc B2.out _, blk_alloc B4.out _, C_new_ss p5_8 (by rw [List.length_take]; have := HL9.out; omega) (Nat.le_trans (by decide) HC4.out) (Kd.C_take (Kd.C_below HR1.out HB.out) HL4.out), Kd.C_alloc BB.out _⟩)
              ·
               skip
               refine value_ (w1 := ?_) (v := ?_) (by rfl) rfl ?_ ?_
               rotate_left 2
               ·
                go_simp
                constructor
                ·
                 rfl
                ·
                 rfl
               refine hK.out _ _ ⟨((blk_cell (blk_alloc B1.out _) 1).trans rfl), ((blk_cell (blk_alloc B1.out _) 3).trans rfl)⟩ (fun hHeld => ?_)
               clear hK K
               refine norm_ (a' := ?_) ?_ ?_
               rotate_left
               ·
                show Act.put _ (some 8) _ = _
                simp only [Act.put, List.setIfInBounds_toArray, List.set_cons_zero, List.set_cons_succ, i64_w, i32_w]
                rfl
               exact norm_ (by first | (simp only [putAll, Act.put, List.setIfInBounds_toArray, List.set_cons_zero, List.set_cons_succ]; done) | (simp only [putAll, Act.put, List.setIfInBounds_toArray, List.set_cons_zero, List.set_cons_succ]; rfl)) (hJ8_11 (gb, p5_8.heap.size) _ ⟨hHeld, below_alloc HB.out _, blk_alloc B1.out _, blk_alloc B2.out _, blk_alloc B4.out _, Kd.C_alloc BB.out _, blk_new p5_8 _, Nat.ne_of_lt (blk_lt B1.out), Nat.ne_of_lt (blk_lt B2.out), Nat.ne_of_lt (blk_lt B4.out), below_size HB.out⟩)
            ·
             skip
             rintro ga p5_3 ⟨hS_, h0_, h1_, h2_, h3_, h4_⟩
             have HB : Aside0 (Below w.heap.size w p5_3) := ⟨h0_⟩
             have B1 : Aside0 (p5_3.heap[g1]? = some (.cells #[.bool false, .slice (some ad) Ks.length c1, .slice A2 Vs.length c2, .slice A3 Cs.length c3] 25 (0, 0))) := ⟨h1_⟩
             have B2 : Aside0 (p5_3.heap[g2]? = some (.cells #[.bool false, .slice none 0 0, .slice none 0 0, .slice none 0 0] 25 (0, 0))) := ⟨h2_⟩
             have B4 : Aside0 (p5_3.heap[g4]? = some (.cells #[.bool false, .slice none 0 0, .slice none 0 0, .slice none 0 0] 25 (0, 0))) := ⟨h3_⟩
             have BA : Aside0 (Kd.C (Kd.slice 9 Kd.string) p5_3 (some ⟨ga, 0, none⟩) 1 [Ks.take 4]) := ⟨h4_⟩
             have hHeld : p5_3.cell? ⟨g1, 1, none⟩ = some (.slice (some ad) Ks.length c1) ∧ p5_3.cell? ⟨g1, 3, none⟩ = some (.slice A3 Cs.length c3) := hS_
             refine norm_ (a' := ?_) ?_ ?_
             rotate_left
             ·
              simp only [putAll, Act.put, List.setIfInBounds_toArray, List.set_cons_zero, List.set_cons_succ]
              rfl
             refine three_ (i := 4) (j := 8) (k := 11) (Ni := some 54) (Nj := some 58) (Nk := some 8) (ba 13 255) (ba 13 495) (ba 13 2287) rfl rfl rfl rfl rfl rfl (by kernel_rfl) (by decide) (by decide) (by decide) (fun K hK => ?_) (fun K hK => ?_) (fun K hK => ?_)
             ·
              skip
              refine goes_ Try.func36 (by kernel_rfl) rfl #[.slice (some ⟨ga, 0, none⟩) ([Ks.take 4] : List _).length 1] (by rfl) rfl rfl (by simp only [List.map_toArray, List.map_cons, List.map_nil]; rfl) ?_
              with_reducible refine (node_rows_string.calls k _ 1 [Ks.take 4] k1_ _ BA.out (Nat.le_refl _) T1.out).mono ?_
              rintro e wc_ ⟨vk, rfl, ho_, hb⟩
              refine ⟨_, rfl, ?_⟩
              obtain ⟨Avk, cvk, e_⟩ := Kd.R_slice ho_
              subst e_
              have HK := am (Kd.R_lower ho_ (below_size HB.out))
              have B1 := am (blk_below B1.out hb)
              have B2 := am (blk_below B2.out hb)
              have B4 := am (blk_below B4.out hb)
              have HB := am (below_step HB.out hb)
              clear ho_ hb
              refine hK.out _ _ ⟨((blk_cell (B1.out) 1).trans rfl), ((blk_cell (B1.out) 3).trans rfl)⟩ (fun hHeld => ?_)
              clear hK K
              refine norm_ (a' := ?_) ?_ ?_
              rotate_left
              ·
               show Act.put _ (some 54) _ = _
               simp only [Act.put, List.setIfInBounds_toArray, List.set_cons_zero, List.set_cons_succ, i64_w, i32_w]
               rfl
              exact norm_ (by first | (simp only [putAll, Act.put, List.setIfInBounds_toArray, List.set_cons_zero, List.set_cons_succ]; done) | (simp only [putAll, Act.put, List.setIfInBounds_toArray, List.set_cons_zero, List.set_cons_succ]; rfl)) (hJ3_4 (ga, (Avk, cvk)) _ ⟨hHeld, HB.out, B1.out, B2.out, B4.out, HK.out⟩)
             ·
              skip
              refine value_ (w1 := ?_) (v := ?_) (by rfl) rfl ?_ ?_
              rotate_left 2
              ·
               go_simp
               constructor
               ·
                rfl
               ·
                rfl
              refine hK.out _ _ ⟨((blk_cell (blk_alloc B1.out _) 1).trans rfl), ((blk_cell (blk_alloc B1.out _) 3).trans rfl)⟩ (fun hHeld => ?_)
              clear hK K
              refine norm_ (a' := ?_) ?_ ?_
              rotate_left
              ·
               show Act.put _ (some 58) _ = _
               simp only [Act.put, List.setIfInBounds_toArray, List.set_cons_zero, List.set_cons_succ, i64_w, i32_w]
               rfl
              exact norm_ (by first | (simp only [putAll, Act.put, List.setIfInBounds_toArray, List.set_cons_zero, List.set_cons_succ]; done) | (simp only [putAll, Act.put, List.setIfInBounds_toArray, List.set_cons_zero, List.set_cons_succ]; rfl)) (hJ3_8 (ga, p5_3.heap.size) _ ⟨hHeld, below_alloc HB.out _, blk_alloc B1.out _, blk_alloc B2.out _, blk_alloc B4.out _, Kd.C_alloc BA.out _, C_new_si p5_3 (by rw [List.length_take]; have := HV4.out; omega) (Nat.le_trans HV4.out HC3.out) (Kd.C_take (Kd.C_below HR3.out HB.out) HV4.out)⟩)
             ·
              skip
              refine value_ (w1 := ?_) (v := ?_) (by rfl) rfl ?_ ?_
              rotate_left 2
              ·
               go_simp
               constructor
               ·
                rfl
               ·
                rfl
              refine hK.out _ _ ⟨((blk_cell (blk_alloc B1.out _) 1).trans rfl), ((blk_cell (blk_alloc B1.out _) 3).trans rfl)⟩ (fun hHeld => ?_)
              clear hK K
              refine norm_ (a' := ?_) ?_ ?_
              rotate_left
              ·
               show Act.put _ (some 8) _ = _
               simp only [Act.put, List.setIfInBounds_toArray, List.set_cons_zero, List.set_cons_succ, i64_w, i32_w]
               rfl
              exact norm_ (by first | (simp only [putAll, Act.put, List.setIfInBounds_toArray, List.set_cons_zero, List.set_cons_succ]; done) | (simp only [putAll, Act.put, List.setIfInBounds_toArray, List.set_cons_zero, List.set_cons_succ]; rfl)) (hJ3_11 (ga, p5_3.heap.size) _ ⟨hHeld, below_alloc HB.out _, blk_alloc B1.out _, blk_alloc B2.out _, blk_alloc B4.out _, Kd.C_alloc BA.out _, blk_new p5_3 _, Nat.ne_of_lt (blk_lt B1.out), Nat.ne_of_lt (blk_lt B2.out), Nat.ne_of_lt (blk_lt B4.out), below_size HB.out⟩)
           ·
            skip
            rintro ⟨gb, g7⟩ p5_8_11 ⟨hS_, h0_, h1_, h2_, h3_, h4_, h5_, h6_, h7_, h8_, h9_⟩
            have HB : Aside0 (Below w.heap.size w p5_8_11) := ⟨h0_⟩
            have B1 : Aside0 (p5_8_11.heap[g1]? = some (.cells #[.bool false, .slice (some ad) Ks.length c1, .slice A2 Vs.length c2, .slice A3 Cs.length c3] 25 (0, 0))) := ⟨h1_⟩
            have B2 : Aside0 (p5_8_11.heap[g2]? = some (.cells #[.bool false, .slice none 0 0, .slice none 0 0, .slice none 0 0] 25 (0, 0))) := ⟨h2_⟩
            have B4 : Aside0 (p5_8_11.heap[g4]? = some (.cells #[.bool false, .slice none 0 0, .slice none 0 0, .slice none 0 0] 25 (0, 0))) := ⟨h3_⟩
            have BB : Aside0 (Kd.C (Kd.slice 3 (Kd.int .i64)) p5_8_11 (some ⟨gb, 0, none⟩) 1 [Cs.take 5]) := ⟨h4_⟩
            have B7 : Aside0 (p5_8_11.heap[g7]? = some (.cells #[.bool false, .slice none 0 0, .slice none 0 0, .slice none 0 0] 25 (0, 0))) := ⟨h5_⟩
            have NE1 : Aside0 (g1 ≠ g7) := ⟨h6_⟩
            have NE2 : Aside0 (g2 ≠ g7) := ⟨h7_⟩
            have NE4 : Aside0 (g4 ≠ g7) := ⟨h8_⟩
            have G7 : Aside0 (w.heap.size ≤ g7) := ⟨h9_⟩
            have hHeld : p5_8_11.cell? ⟨g1, 1, none⟩ = some (.slice (some ad) Ks.length c1) ∧ p5_8_11.cell? ⟨g1, 3, none⟩ = some (.slice A3 Cs.length c3) := hS_
            refine norm_ (a' := ?_) ?_ ?_
            rotate_left
            ·
             simp only [putAll, Act.put, List.setIfInBounds_toArray, List.set_cons_zero, List.set_cons_succ]
             rfl
            refine one_ (i := 3) (N := some 53) (ba 13 2543) rfl rfl (by kernel_rfl) (by decide) (fun K hK => ?_)
            refine value_ (w1 := ?_) (v := ?_) (by rfl) rfl ?_ ?_
            rotate_left 2
            ·
             go_simp
             constructor
             ·
              rfl
             ·
              rfl
            refine hK.out _ _ ⟨((blk_cell (blk_alloc B1.out _) 1).trans rfl), ((blk_cell (blk_alloc B1.out _) 3).trans rfl)⟩ (fun hHeld => ?_)
            clear hK K
            refine norm_ (a' := ?_) ?_ ?_
            rotate_left
            ·
             show Act.put _ (some 53) _ = _
             simp only [Act.put, List.setIfInBounds_toArray, List.set_cons_zero, List.set_cons_succ, i64_w, i32_w]
             rfl
            exact norm_ (by first | (simp only [putAll, Act.put, List.setIfInBounds_toArray, List.set_cons_zero, List.set_cons_succ]; done) | (simp only [putAll, Act.put, List.setIfInBounds_toArray, List.set_cons_zero, List.set_cons_succ]; rfl)) (hJ3_8_11 (p5_8_11.heap.size, gb, g7) _ ⟨hHeld, below_alloc HB.out _, blk_alloc B1.out _, blk_alloc B2.out _, blk_alloc B4.out _, C_new_ss p5_8_11 (by rw [List.length_take]; have := HL9.out; omega) (Nat.le_trans (by decide) HC4.out) (Kd.C_take (Kd.C_below HR1.out HB.out) HL4.out), Kd.C_alloc BB.out _, blk_alloc B7.out _, NE1.out, NE2.out, NE4.out, G7.out⟩)
          ·
           skip
           rintro ⟨ga, g7⟩ p5_3_11 ⟨hS_, h0_, h1_, h2_, h3_, h4_, h5_, h6_, h7_, h8_, h9_⟩
           have HB : Aside0 (Below w.heap.size w p5_3_11) := ⟨h0_⟩
           have B1 : Aside0 (p5_3_11.heap[g1]? = some (.cells #[.bool false, .slice (some ad) Ks.length c1, .slice A2 Vs.length c2, .slice A3 Cs.length c3] 25 (0, 0))) := ⟨h1_⟩
           have B2 : Aside0 (p5_3_11.heap[g2]? = some (.cells #[.bool false, .slice none 0 0, .slice none 0 0, .slice none 0 0] 25 (0, 0))) := ⟨h2_⟩
           have B4 : Aside0 (p5_3_11.heap[g4]? = some (.cells #[.bool false, .slice none 0 0, .slice none 0 0, .slice none 0 0] 25 (0, 0))) := ⟨h3_⟩
           have BA : Aside0 (Kd.C (Kd.slice 9 Kd.string) p5_3_11 (some ⟨ga, 0, none⟩) 1 [Ks.take 4]) := ⟨h4_⟩
           have B7 : Aside0 (p5_3_11.heap[g7]? = some (.cells #[.bool false, .slice none 0 0, .slice none 0 0, .slice none 0 0] 25 (0, 0))) := ⟨h5_⟩
           have NE1 : Aside0 (g1 ≠ g7) := ⟨h6_⟩
           have NE2 : Aside0 (g2 ≠ g7) := ⟨h7_⟩
           have NE4 : Aside0 (g4 ≠ g7) := ⟨h8_⟩
           have G7 : Aside0 (w.heap.size ≤ g7) := ⟨h9_⟩
           have hHeld : p5_3_11.cell? ⟨g1, 1, none⟩ = some (.slice (some ad) Ks.length c1) ∧ p5_3_11.cell? ⟨g1, 3, none⟩ = some (.slice A3 Cs.length c3) := hS_
           refine norm_ (a' := ?_) ?_ ?_
           rotate_left
           ·
            simp only [putAll, Act.put, List.setIfInBounds_toArray, List.set_cons_zero, List.set_cons_succ]
            rfl
           refine two_ (i := 4) (j := 8) (Ni := some 54) (Nj := some 58) (ba 13 2303) (ba 13 2543) rfl rfl rfl rfl (by kernel_rfl) (by decide) (by decide) (fun K hK => ?_) (fun K hK => ?_)
           ·
            skip
            refine goes_ Try.func36 (by kernel_rfl) rfl #[.slice (some ⟨ga, 0, none⟩) ([Ks.take 4] : List _).length 1] (by rfl) rfl rfl (by simp only [List.map_toArray, List.map_cons, List.map_nil]; rfl) ?_
            with_reducible refine (node_rows_string.calls k _ 1 [Ks.take 4] k1_ _ BA.out (Nat.le_refl _) T1.out).mono ?_
            rintro e wc_ ⟨vk, rfl, ho_, hb⟩
            refine ⟨_, rfl, ?_⟩
            obtain ⟨Avk, cvk, e_⟩ := Kd.R_slice ho_
            subst e_
            have HK := am (Kd.R_lower ho_ (below_size HB.out))
            have B1 := am (blk_below B1.out hb)
            have B2 := am (blk_below B2.out hb)
            have B4 := am (blk_below B4.out hb)
            have B7 := am (blk_below B7.out hb)
            have HB := am (below_step HB.out hb)
            clear ho_ hb
            refine hK.out _ _ ⟨((blk_cell (B1.out) 1).trans rfl), ((blk_cell (B1.out) 3).trans rfl)⟩ (fun hHeld => ?_)
            clear hK K
            refine norm_ (a' := ?_) ?_ ?_
            rotate_left
            ·
             show Act.put _ (some 54) _ = _
             simp only [Act.put, List.setIfInBounds_toArray, List.set_cons_zero, List.set_cons_succ, i64_w, i32_w]
             rfl
            exact norm_ (by first | (simp only [putAll, Act.put, List.setIfInBounds_toArray, List.set_cons_zero, List.set_cons_succ]; done) | (simp only [putAll, Act.put, List.setIfInBounds_toArray, List.set_cons_zero, List.set_cons_succ]; rfl)) (hJ3_4_11 (ga, (Avk, cvk), g7) _ ⟨hHeld, HB.out, B1.out, B2.out, B4.out, HK.out, B7.out, NE1.out, NE2.out, NE4.out, G7.out⟩)
           ·
            skip
            refine value_ (w1 := ?_) (v := ?_) (by rfl) rfl ?_ ?_
            rotate_left 2
            ·
             go_simp
             constructor
             ·
              rfl
             ·
              rfl
            refine hK.out _ _ ⟨((blk_cell (blk_alloc B1.out _) 1).trans rfl), ((blk_cell (blk_alloc B1.out _) 3).trans rfl)⟩ (fun hHeld => ?_)
            clear hK K
            refine norm_ (a' := ?_) ?_ ?_
            rotate_left
            ·
             show Act.put _ (some 58) _ = _
             simp only [Act.put, List.setIfInBounds_toArray, List.set_cons_zero, List.set_cons_succ, i64_w, i32_w]
             rfl
            exact norm_ (by first | (simp only [putAll, Act.put, List.setIfInBounds_toArray, List.set_cons_zero, List.set_cons_succ]; done) | (simp only [putAll, Act.put, List.setIfInBounds_toArray, List.set_cons_zero, List.set_cons_succ]; rfl)) (hJ3_8_11 (ga, p5_3_11.heap.size, g7) _ ⟨hHeld, below_alloc HB.out _, blk_alloc B1.out _, blk_alloc B2.out _, blk_alloc B4.out _, Kd.C_alloc BA.out _, C_new_si p5_3_11 (by rw [List.length_take]; have := HV4.out; omega) (Nat.le_trans HV4.out HC3.out) (Kd.C_take (Kd.C_below HR3.out HB.out) HV4.out), blk_alloc B7.out _, NE1.out, NE2.out, NE4.out, G7.out⟩)
         ·
          skip
          rintro ⟨ga, gb⟩ p5_3_8 ⟨hS_, h0_, h1_, h2_, h3_, h4_, h5_⟩
          have HB : Aside0 (Below w.heap.size w p5_3_8) := ⟨h0_⟩
          have B1 : Aside0 (p5_3_8.heap[g1]? = some (.cells #[.bool false, .slice (some ad) Ks.length c1, .slice A2 Vs.length c2, .slice A3 Cs.length c3] 25 (0, 0))) := ⟨h1_⟩
          have B2 : Aside0 (p5_3_8.heap[g2]? = some (.cells #[.bool false, .slice none 0 0, .slice none 0 0, .slice none 0 0] 25 (0, 0))) := ⟨h2_⟩
          have B4 : Aside0 (p5_3_8.heap[g4]? = some (.cells #[.bool false, .slice none 0 0, .slice none 0 0, .slice none 0 0] 25 (0, 0))) := ⟨h3_⟩
          have BA : Aside0 (Kd.C (Kd.slice 9 Kd.string) p5_3_8 (some ⟨ga, 0, none⟩) 1 [Ks.take 4]) := ⟨h4_⟩
          have BB : Aside0 (Kd.C (Kd.slice 3 (Kd.int .i64)) p5_3_8 (some ⟨gb, 0, none⟩) 1 [Cs.take 5]) := ⟨h5_⟩
          have hHeld : p5_3_8.cell? ⟨g1, 1, none⟩ = some (.slice (some ad) Ks.length c1) ∧ p5_3_8.cell? ⟨g1, 3, none⟩ = some (.slice A3 Cs.length c3) := hS_
          refine norm_ (a' := ?_) ?_ ?_
          rotate_left
          ·
           simp only [putAll, Act.put, List.setIfInBounds_toArray, List.set_cons_zero, List.set_cons_succ]
           rfl
          refine two_ (i := 4) (j := 11) (Ni := some 54) (Nj := some 8) (ba 13 511) (ba 13 2543) rfl rfl rfl rfl (by kernel_rfl) (by decide) (by decide) (fun K hK => ?_) (fun K hK => ?_)
          ·
           skip
           refine goes_ Try.func36 (by kernel_rfl) rfl #[.slice (some ⟨ga, 0, none⟩) ([Ks.take 4] : List _).length 1] (by rfl) rfl rfl (by simp only [List.map_toArray, List.map_cons, List.map_nil]; rfl) ?_
           with_reducible refine (node_rows_string.calls k _ 1 [Ks.take 4] k1_ _ BA.out (Nat.le_refl _) T1.out).mono ?_
           rintro e wc_ ⟨vk, rfl, ho_, hb⟩
           refine ⟨_, rfl, ?_⟩
           obtain ⟨Avk, cvk, e_⟩ := Kd.R_slice ho_
           subst e_
           have HK := am (Kd.R_lower ho_ (below_size HB.out))
           have B1 := am (blk_below B1.out hb)
           have B2 := am (blk_below B2.out hb)
           have B4 := am (blk_below B4.out hb)
           have BB := am (Kd.C_below BB.out hb)
           have HB := am (below_step HB.out hb)
           clear ho_ hb
           refine hK.out _ _ ⟨((blk_cell (B1.out) 1).trans rfl), ((blk_cell (B1.out) 3).trans rfl)⟩ (fun hHeld => ?_)
           clear hK K
           refine norm_ (a' := ?_) ?_ ?_
           rotate_left
           ·
            show Act.put _ (some 54) _ = _
            simp only [Act.put, List.setIfInBounds_toArray, List.set_cons_zero, List.set_cons_succ, i64_w, i32_w]
            rfl
           exact norm_ (by first | (simp only [putAll, Act.put, List.setIfInBounds_toArray, List.set_cons_zero, List.set_cons_succ]; done) | (simp only [putAll, Act.put, List.setIfInBounds_toArray, List.set_cons_zero, List.set_cons_succ]; rfl)) (hJ3_4_8 (ga, (Avk, cvk), gb) _ ⟨hHeld, HB.out, B1.out, B2.out, B4.out, HK.out, BB.out⟩)
          ·
           skip
           refine value_ (w1 := ?_) (v := ?_) (by rfl) rfl ?_ ?_
           rotate_left 2
           ·
            go_simp
            constructor
            ·
             rfl
            ·
             rfl
           refine hK.out _ _ ⟨((blk_cell (blk_alloc B1.out _) 1).trans rfl), ((blk_cell (blk_alloc B1.out _) 3).trans rfl)⟩ (fun hHeld => ?_)
           clear hK K
           refine norm_ (a' := ?_) ?_ ?_
           rotate_left
           ·
            show Act.put _ (some 8) _ = _
            simp only [Act.put, List.setIfInBounds_toArray, List.set_cons_zero, List.set_cons_succ, i64_w, i32_w]
            rfl
           exact norm_ (by first | (simp only [putAll, Act.put, List.setIfInBounds_toArray, List.set_cons_zero, List.set_cons_succ]; done) | (simp only [putAll, Act.put, List.setIfInBounds_toArray, List.set_cons_zero, List.set_cons_succ]; rfl)) (hJ3_8_11 (ga, gb, p5_3_8.heap.size) _ ⟨hHeld, below_alloc HB.out _, blk_alloc B1.out _, blk_alloc B2.out _, blk_alloc B4.out _, Kd.C_alloc BA.out _, Kd.C_alloc BB.out _, blk_new p5_3_8 _, Nat.ne_of_lt (blk_lt B1.out), Nat.ne_of_lt (blk_lt B2.out), Nat.ne_of_lt (blk_lt B4.out), below_size HB.out⟩)
        ·
         skip
         rintro ⟨ga, ⟨Avk, cvk⟩⟩ p5_3_4 ⟨hS_, h0_, h1_, h2_, h3_, h4_⟩
         have HB : Aside0 (Below w.heap.size w p5_3_4) := ⟨h0_⟩
         have B1 : Aside0 (p5_3_4.heap[g1]? = some (.cells #[.bool false, .slice (some ad) Ks.length c1, .slice A2 Vs.length c2, .slice A3 Cs.length c3] 25 (0, 0))) := ⟨h1_⟩
         have B2 : Aside0 (p5_3_4.heap[g2]? = some (.cells #[.bool false, .slice none 0 0, .slice none 0 0, .slice none 0 0] 25 (0, 0))) := ⟨h2_⟩
         have B4 : Aside0 (p5_3_4.heap[g4]? = some (.cells #[.bool false, .slice none 0 0, .slice none 0 0, .slice none 0 0] 25 (0, 0))) := ⟨h3_⟩
         have HK : Aside0 (Kd.R Kd.string 9 p5_3_4 w.heap.size (fun _ => True) (.slice Avk k1_.length cvk) k1_) := ⟨h4_⟩
         have hHeld : p5_3_4.cell? ⟨g1, 1, none⟩ = some (.slice (some ad) Ks.length c1) ∧ p5_3_4.cell? ⟨g1, 3, none⟩ = some (.slice A3 Cs.length c3) := hS_
         refine norm_ (a' := ?_) ?_ ?_
         rotate_left
         ·
          simp only [putAll, Act.put, List.setIfInBounds_toArray, List.set_cons_zero, List.set_cons_succ]
          rfl
         refine two_ (i := 8) (j := 11) (Ni := some 58) (Nj := some 8) (ba 13 511) (ba 13 2303) rfl rfl rfl rfl (by kernel_rfl) (by decide) (by decide) (fun K hK => ?_) (fun K hK => ?_)
         ·
          skip
          refine value_ (w1 := ?_) (v := ?_) (by rfl) rfl ?_ ?_
          rotate_left 2
          ·
           go_simp
           constructor
           ·
            rfl
           ·
            rfl
          refine hK.out _ _ ⟨((blk_cell (blk_alloc B1.out _) 1).trans rfl), ((blk_cell (blk_alloc B1.out _) 3).trans rfl)⟩ (fun hHeld => ?_)
          clear hK K
          refine norm_ (a' := ?_) ?_ ?_
          rotate_left
          ·
           show Act.put _ (some 58) _ = _
           simp only [Act.put, List.setIfInBounds_toArray, List.set_cons_zero, List.set_cons_succ, i64_w, i32_w]
           rfl
          exact norm_ (by first | (simp only [putAll, Act.put, List.setIfInBounds_toArray, List.set_cons_zero, List.set_cons_succ]; done) | (simp only [putAll, Act.put, List.setIfInBounds_toArray, List.set_cons_zero, List.set_cons_succ]; rfl)) (hJ3_4_8 (ga, (Avk, cvk), p5_3_4.heap.size) _ ⟨hHeld, below_alloc HB.out _, blk_alloc B1.out _, blk_alloc B2.out _, blk_alloc B4.out _, Kd.R_alloc HK.out _, C_new_si p5_3_4 (by rw [List.length_take]; have := HV4.out; omega) (Nat.le_trans HV4.out HC3.out) (Kd.C_take (Kd.C_below HR3.out HB.out) HV4.out)⟩)
         ·
          skip
          refine value_ (w1 := ?_) (v := ?_) (by rfl) rfl ?_ ?_
          rotate_left 2
          ·
           go_simp
           constructor
           ·
            rfl
           ·
            rfl
          refine hK.out _ _ ⟨((blk_cell (blk_alloc B1.out _) 1).trans rfl), ((blk_cell (blk_alloc B1.out _) 3).trans rfl)⟩ (fun hHeld => ?_)
          clear hK K
          refine norm_ (a' := ?_) ?_ ?_
          rotate_left
          ·
           show Act.put _ (some 8) _ = _
           simp only [Act.put, List.setIfInBounds_toArray, List.set_cons_zero, List.set_cons_succ, i64_w, i32_w]
           rfl
          exact norm_ (by first | (simp only [putAll, Act.put, List.setIfInBounds_toArray, List.set_cons_zero, List.set_cons_succ]; done) | (simp only [putAll, Act.put, List.setIfInBounds_toArray, List.set_cons_zero, List.set_cons_succ]; rfl)) (hJ3_4_11 (ga, (Avk, cvk), p5_3_4.heap.size) _ ⟨hHeld, below_alloc HB.out _, blk_alloc B1.out _, blk_alloc B2.out _, blk_alloc B4.out _, Kd.R_alloc HK.out _, blk_new p5_3_4 _, Nat.ne_of_lt (blk_lt B1.out), Nat.ne_of_lt (blk_lt B2.out), Nat.ne_of_lt (blk_lt B4.out), below_size HB.out⟩)
       ·
        skip
        rintro ⟨ga, gb, g7⟩ p5_3_8_11 ⟨hS_, h0_, h1_, h2_, h3_, h4_, h5_, h6_, h7_, h8_, h9_, h10_⟩
        have HB : Aside0 (Below w.heap.size w p5_3_8_11) := ⟨h0_⟩
        have B1 : Aside0 (p5_3_8_11.heap[g1]? = some (.cells #[.bool false, .slice (some ad) Ks.length c1, .slice A2 Vs.length c2, .slice A3 Cs.length c3] 25 (0, 0))) := ⟨h1_⟩
        have B2 : Aside0 (p5_3_8_11.heap[g2]? = some (.cells #[.bool false, .slice none 0 0, .slice none 0 0, .slice none 0 0] 25 (0, 0))) := ⟨h2_⟩
        have B4 : Aside0 (p5_3_8_11.heap[g4]? = some (.cells #[.bool false, .slice none 0 0, .slice none 0 0, .slice none 0 0] 25 (0, 0))) := ⟨h3_⟩
        have BA : Aside0 (Kd.C (Kd.slice 9 Kd.string) p5_3_8_11 (some ⟨ga, 0, none⟩) 1 [Ks.take 4]) := ⟨h4_⟩
        have BB : Aside0 (Kd.C (Kd.slice 3 (Kd.int .i64)) p5_3_8_11 (some ⟨gb, 0, none⟩) 1 [Cs.take 5]) := ⟨h5_⟩
        have B7 : Aside0 (p5_3_8_11.heap[g7]? = some (.cells #[.bool false, .slice none 0 0, .slice none 0 0, .slice none 0 0] 25 (0, 0))) := ⟨h6_⟩
        have NE1 : Aside0 (g1 ≠ g7) := ⟨h7_⟩
        have NE2 : Aside0 (g2 ≠ g7) := ⟨h8_⟩
        have NE4 : Aside0 (g4 ≠ g7) := ⟨h9_⟩
        have G7 : Aside0 (w.heap.size ≤ g7) := ⟨h10_⟩
        have hHeld : p5_3_8_11.cell? ⟨g1, 1, none⟩ = some (.slice (some ad) Ks.length c1) ∧ p5_3_8_11.cell? ⟨g1, 3, none⟩ = some (.slice A3 Cs.length c3) := hS_
        refine norm_ (a' := ?_) ?_ ?_
        rotate_left
        ·
         simp only [putAll, Act.put, List.setIfInBounds_toArray, List.set_cons_zero, List.set_cons_succ]
         rfl
        refine one_ (i := 4) (N := some 54) (ba 13 2559) rfl rfl (by kernel_rfl) (by decide) (fun K hK => ?_)
        refine goes_ Try.func36 (by kernel_rfl) rfl #[.slice (some ⟨ga, 0, none⟩) ([Ks.take 4] : List _).length 1] (by rfl) rfl rfl (by simp only [List.map_toArray, List.map_cons, List.map_nil]; rfl) ?_
        with_reducible refine (node_rows_string.calls k _ 1 [Ks.take 4] k1_ _ BA.out (Nat.le_refl _) T1.out).mono ?_
        rintro e wc_ ⟨vk, rfl, ho_, hb⟩
        refine ⟨_, rfl, ?_⟩
        obtain ⟨Avk, cvk, e_⟩ := Kd.R_slice ho_
        subst e_
        have HK := am (Kd.R_lower ho_ (below_size HB.out))
        have B1 := am (blk_below B1.out hb)
        have B2 := am (blk_below B2.out hb)
        have B4 := am (blk_below B4.out hb)
        have BB := am (Kd.C_below BB.out hb)
        have B7 := am (blk_below B7.out hb)
        have HB := am (below_step HB.out hb)
        clear ho_ hb
        refine hK.out _ _ ⟨((blk_cell (B1.out) 1).trans rfl), ((blk_cell (B1.out) 3).trans rfl)⟩ (fun hHeld => ?_)
        clear hK K
        refine norm_ (a' := ?_) ?_ ?_
        rotate_left
        ·
         show Act.put _ (some 54) _ = _
         simp only [Act.put, List.setIfInBounds_toArray, List.set_cons_zero, List.set_cons_succ, i64_w, i32_w]
         rfl
        exact norm_ (by first | (simp only [putAll, Act.put, List.setIfInBounds_toArray, List.set_cons_zero, List.set_cons_succ]; done) | (simp only [putAll, Act.put, List.setIfInBounds_toArray, List.set_cons_zero, List.set_cons_succ]; rfl)) (hJ3_4_8_11 (ga, (Avk, cvk), gb, g7) _ ⟨hHeld, HB.out, B1.out, B2.out, B4.out, HK.out, BB.out, B7.out, NE1.out, NE2.out, NE4.out, G7.out⟩)
      ·
       skip
       rintro ⟨ga, ⟨Avk, cvk⟩, g7⟩ p5_3_4_11 ⟨hS_, h0_, h1_, h2_, h3_, h4_, h5_, h6_, h7_, h8_, h9_⟩
       have HB : Aside0 (Below w.heap.size w p5_3_4_11) := ⟨h0_⟩
       have B1 : Aside0 (p5_3_4_11.heap[g1]? = some (.cells #[.bool false, .slice (some ad) Ks.length c1, .slice A2 Vs.length c2, .slice A3 Cs.length c3] 25 (0, 0))) := ⟨h1_⟩
       have B2 : Aside0 (p5_3_4_11.heap[g2]? = some (.cells #[.bool false, .slice none 0 0, .slice none 0 0, .slice none 0 0] 25 (0, 0))) := ⟨h2_⟩
       have B4 : Aside0 (p5_3_4_11.heap[g4]? = some (.cells #[.bool false, .slice none 0 0, .slice none 0 0, .slice none 0 0] 25 (0, 0))) := ⟨h3_⟩
       have HK : Aside0 (Kd.R Kd.string 9 p5_3_4_11 w.heap.size (fun _ => True) (.slice Avk k1_.length cvk) k1_) := ⟨h4_⟩
       have B7 : Aside0 (p5_3_4_11.heap[g7]? = some (.cells #[.bool false, .slice none 0 0, .slice none 0 0, .slice none 0 0] 25 (0, 0))) := ⟨h5_⟩
       have NE1 : Aside0 (g1 ≠ g7) := ⟨h6_⟩
       have NE2 : Aside0 (g2 ≠ g7) := ⟨h7_⟩
       have NE4 : Aside0 (g4 ≠ g7) := ⟨h8_⟩
       have G7 : Aside0 (w.heap.size ≤ g7) := ⟨h9_⟩
       have hHeld : p5_3_4_11.cell? ⟨g1, 1, none⟩ = some (.slice (some ad) Ks.length c1) ∧ p5_3_4_11.cell? ⟨g1, 3, none⟩ = some (.slice A3 Cs.length c3) := hS_
       refine norm_ (a' := ?_) ?_ ?_
       rotate_left
       ·
        simp only [putAll, Act.put, List.setIfInBounds_toArray, List.set_cons_zero, List.set_cons_succ]
        rfl
       refine one_ (i := 8) (N := some 58) (ba 13 2559) rfl rfl (by kernel_rfl) (by decide) (fun K hK => ?_)
       refine value_ (w1 := ?_) (v := ?_) (by rfl) rfl ?_ ?_
       rotate_left 2
       ·
        go_simp
        constructor
        ·
         rfl
        ·
         rfl
       refine hK.out _ _ ⟨((blk_cell (blk_alloc B1.out _) 1).trans rfl), ((blk_cell (blk_alloc B1.out _) 3).trans rfl)⟩ (fun hHeld => ?_)
       clear hK K
       refine norm_ (a' := ?_) ?_ ?_
       rotate_left
       ·
        show Act.put _ (some 58) _ = _
        simp only [Act.put, List.setIfInBounds_toArray, List.set_cons_zero, List.set_cons_succ, i64_w, i32_w]
        rfl
       exact norm_ (by first | (simp only [putAll, Act.put, List.setIfInBounds_toArray, List.set_cons_zero, List.set_cons_succ]; done) | (simp only [putAll, Act.put, List.setIfInBounds_toArray, List.set_cons_zero, List.set_cons_succ]; rfl)) (hJ3_4_8_11 (ga, (Avk, cvk), p5_3_4_11.heap.size, g7) _ ⟨hHeld, below_alloc HB.out _, blk_alloc B1.out _, blk_alloc B2.out _, blk_alloc B4.out _, Kd.R_alloc HK.out _, C_new_si p5_3_4_11 (by rw [List.length_take]; have := HV4.out; omega) (Nat.le_trans HV4.out HC3.out) (Kd.C_take (Kd.C_below HR3.out HB.out) HV4.out), blk_alloc B7.out _, NE1.out, NE2.out, NE4.out, G7.out⟩)
     ·
      skip
      rintro ⟨ga, ⟨Avk, cvk⟩, gb⟩ p5_3_4_8 ⟨hS_, h0_, h1_, h2_, h3_, h4_, h5_⟩
      have HB : Aside0 (Below w.heap.size w p5_3_4_8) := ⟨h0_⟩
      have B1 : Aside0 (p5_3_4_8.heap[g1]? = some (.cells #[.bool false, .slice (some ad) Ks.length c1, .slice A2 Vs.length c2, .slice A3 Cs.length c3] 25 (0, 0))) := ⟨h1_⟩
      have B2 : Aside0 (p5_3_4_8.heap[g2]? = some (.cells #[.bool false, .slice none 0 0, .slice none 0 0, .slice none 0 0] 25 (0, 0))) := ⟨h2_⟩
      have B4 : Aside0 (p5_3_4_8.heap[g4]? = some (.cells #[.bool false, .slice none 0 0, .slice none 0 0, .slice none 0 0] 25 (0, 0))) := ⟨h3_⟩
      have HK : Aside0 (Kd.R Kd.string 9 p5_3_4_8 w.heap.size (fun _ => True) (.slice Avk k1_.length cvk) k1_) := ⟨h4_⟩
      have BB : Aside0 (Kd.C (Kd.slice 3 (Kd.int .i64)) p5_3_4_8 (some ⟨gb, 0, none⟩) 1 [Cs.take 5]) := ⟨h5_⟩
      have hHeld : p5_3_4_8.cell? ⟨g1, 1, none⟩ = some (.slice (some ad) Ks.length c1) ∧ p5_3_4_8.cell? ⟨g1, 3, none⟩ = some (.slice A3 Cs.length c3) := hS_
      refine norm_ (a' := ?_) ?_ ?_
      rotate_left
      ·
       simp only [putAll, Act.put, List.setIfInBounds_toArray, List.set_cons_zero, List.set_cons_succ]
       rfl
      refine two_ (i := 9) (j := 11) (Ni := some 59) (Nj := some 8) (ba 13 1023) (ba 13 2559) rfl rfl rfl rfl (by kernel_rfl) (by decide) (by decide) (fun K hK => ?_) (fun K hK => ?_)
      ·
       skip
       refine goes_ Try.func37 (by kernel_rfl) rfl #[.slice (some ⟨gb, 0, none⟩) ([Cs.take 5] : List _).length 1] (by rfl) rfl rfl (by simp only [List.map_toArray, List.map_cons, List.map_nil]; rfl) ?_
       with_reducible refine (node_rows_int.calls k _ 1 [Cs.take 5] v1_ _ BB.out (Nat.le_refl _) T2.out).mono ?_
       rintro e wc_ ⟨vv, rfl, ho_, hb⟩
       refine ⟨_, rfl, ?_⟩
       obtain ⟨Avv, cvv, e_⟩ := Kd.R_slice ho_
       subst e_
       have HV := am (Kd.R_lower ho_ (below_size HB.out))
       have B1 := am (blk_below B1.out hb)
       have B2 := am (blk_below B2.out hb)
       have B4 := am (blk_below B4.out hb)
       have HK := am (Kd.R_below HK.out hb)
       have HB := am (below_step HB.out hb)
       clear ho_ hb
       refine hK.out _ _ ⟨((blk_cell (B1.out) 1).trans rfl), ((blk_cell (B1.out) 3).trans rfl)⟩ (fun hHeld => ?_)
       clear hK K
       refine norm_ (a' := ?_) ?_ ?_
       rotate_left
       ·
        show Act.put _ (some 59) _ = _
        simp only [Act.put, List.setIfInBounds_toArray, List.set_cons_zero, List.set_cons_succ, i64_w, i32_w]
        rfl
       refine pure_ (i := 10) (N := some 60) (v := ?_) (a' := ?_) (ba 13 2047) rfl rfl (by kernel_rfl) (fun _ _ _ h => h) (Or.inl ⟨by rfl, ?_⟩) ?_ ?_
       rotate_left
       ·
        intro w'
        go_simp
        with_reducible rfl
       rotate_left
       ·
        simp only [Act.put, List.setIfInBounds_toArray, List.set_cons_zero, List.set_cons_succ, i64_w, i32_w]
        rfl
       exact norm_ (by first | (simp only [putAll, Act.put, List.setIfInBounds_toArray, List.set_cons_zero, List.set_cons_succ]; done) | (simp only [putAll, Act.put, List.setIfInBounds_toArray, List.set_cons_zero, List.set_cons_succ]; rfl)) (hJ3_4_8_9 (ga, (Avk, cvk), gb, (Avv, cvv)) _ ⟨hHeld, HB.out, B1.out, B2.out, B4.out, HK.out, HV.out⟩)
      ·
       skip
       refine value_ (w1 := ?_) (v := ?_) (by rfl) rfl ?_ ?_
       rotate_left 2
       ·
        go_simp
        constructor
        ·
         rfl
        ·
         rfl
       refine hK.out _ _ ⟨((blk_cell (blk_alloc B1.out _) 1).trans rfl), ((blk_cell (blk_alloc B1.out _) 3).trans rfl)⟩ (fun hHeld => ?_)
       clear hK K
       refine norm_ (a' := ?_) ?_ ?_
       rotate_left
       ·
        show Act.put _ (some 8) _ = _
        simp only [Act.put, List.setIfInBounds_toArray, List.set_cons_zero, List.set_cons_succ, i64_w, i32_w]
        rfl
       exact norm_ (by first | (simp only [putAll, Act.put, List.setIfInBounds_toArray, List.set_cons_zero, List.set_cons_succ]; done) | (simp only [putAll, Act.put, List.setIfInBounds_toArray, List.set_cons_zero, List.set_cons_succ]; rfl)) (hJ3_4_8_11 (ga, (Avk, cvk), gb, p5_3_4_8.heap.size) _ ⟨hHeld, below_alloc HB.out _, blk_alloc B1.out _, blk_alloc B2.out _, blk_alloc B4.out _, Kd.R_alloc HK.out _, Kd.C_alloc BB.out _, blk_new p5_3_4_8 _, Nat.ne_of_lt (blk_lt B1.out), Nat.ne_of_lt (blk_lt B2.out), Nat.ne_of_lt (blk_lt B4.out), below_size HB.out⟩)
    ·
     skip
     rintro ⟨ga, ⟨Avk, cvk⟩, gb, g7⟩ p5_3_4_8_11 ⟨hS_, h0_, h1_, h2_, h3_, h4_, h5_, h6_, h7_, h8_, h9_, h10_⟩
     have HB : Aside0 (Below w.heap.size w p5_3_4_8_11) := ⟨h0_⟩
     have B1 : Aside0 (p5_3_4_8_11.heap[g1]? = some (.cells #[.bool false, .slice (some ad) Ks.length c1, .slice A2 Vs.length c2, .slice A3 Cs.length c3] 25 (0, 0))) := ⟨h1_⟩
     have B2 : Aside0 (p5_3_4_8_11.heap[g2]? = some (.cells #[.bool false, .slice none 0 0, .slice none 0 0, .slice none 0 0] 25 (0, 0))) := ⟨h2_⟩
     have B4 : Aside0 (p5_3_4_8_11.heap[g4]? = some (.cells #[.bool false, .slice none 0 0, .slice none 0 0, .slice none 0 0] 25 (0, 0))) := ⟨h3_⟩
     have HK : Aside0 (Kd.R Kd.string 9 p5_3_4_8_11 w.heap.size (fun _ => True) (.slice Avk k1_.length cvk) k1_) := ⟨h4_⟩
     have BB : Aside0 (Kd.C (Kd.slice 3 (Kd.int .i64)) p5_3_4_8_11 (some ⟨gb, 0, none⟩) 1 [Cs.take 5]) := ⟨h5_⟩
     have B7 : Aside0 (p5_3_4_8_11.heap[g7]? = some (.cells #[.bool false, .slice none 0 0, .slice none 0 0, .slice none 0 0] 25 (0, 0))) := ⟨h6_⟩
     have NE1 : Aside0 (g1 ≠ g7) := ⟨h7_⟩
     have NE2 : Aside0 (g2 ≠ g7) := ⟨h8_⟩
     have NE4 : Aside0 (g4 ≠ g7) := ⟨h9_⟩
     have G7 : Aside0 (w.heap.size ≤ g7) := ⟨h10_⟩
     have hHeld : p5_3_4_8_11.cell? ⟨g1, 1, none⟩ = some (.slice (some ad) Ks.length c1) ∧ p5_3_4_8_11.cell? ⟨g1, 3, none⟩ = some (.slice A3 Cs.length c3) := hS_
     refine norm_ (a' := ?_) ?_ ?_
     rotate_left
     ·
      simp only [putAll, Act.put, List.setIfInBounds_toArray, List.set_cons_zero, List.set_cons_succ]
      rfl
     refine one_ (i := 9) (N := some 59) (ba 13 3071) rfl rfl (by kernel_rfl) (by decide) (fun K hK => ?_)
     refine goes_ Try.func37 (by kernel_rfl) rfl #[.slice (some ⟨gb, 0, none⟩) ([Cs.take 5] : List _).length 1] (by rfl) rfl rfl (by simp only [List.map_toArray, List.map_cons, List.map_nil]; rfl) ?_
     with_reducible refine (node_rows_int.calls k _ 1 [Cs.take 5] v1_ _ BB.out (Nat.le_refl _) T2.out).mono ?_
     rintro e wc_ ⟨vv, rfl, ho_, hb⟩
     refine ⟨_, rfl, ?_⟩
     obtain ⟨Avv, cvv, e_⟩ := Kd.R_slice ho_
     subst e_
     have HV := am (Kd.R_lower ho_ (below_size HB.out))
     have B1 := am (blk_below B1.out hb)
     have B2 := am (blk_below B2.out hb)
     have B4 := am (blk_below B4.out hb)
     have HK := am (Kd.R_below HK.out hb)
     have B7 := am (blk_below B7.out hb)
     have HB := am (below_step HB.out hb)
     clear ho_ hb
     refine hK.out _ _ ⟨((blk_cell (B1.out) 1).trans rfl), ((blk_cell (B1.out) 3).trans rfl)⟩ (fun hHeld => ?_)
     clear hK K
     refine norm_ (a' := ?_) ?_ ?_
     rotate_left
     ·
      show Act.put _ (some 59) _ = _
      simp only [Act.put, List.setIfInBounds_toArray, List.set_cons_zero, List.set_cons_succ, i64_w, i32_w]
      rfl
     refine pure_ (i := 10) (N := some 60) (v := ?_) (a' := ?_) (ba 13 4095) rfl rfl (by kernel_rfl) (fun _ _ _ h => h) (Or.inl ⟨by rfl, ?_⟩) ?_ ?_
     rotate_left
     ·
      intro w'
      go_simp
      with_reducible rfl
     rotate_left
     ·
      simp only [Act.put, List.setIfInBounds_toArray, List.set_cons_zero, List.set_cons_succ, i64_w, i32_w]
      rfl
     exact norm_ (by first | (simp only [putAll, Act.put, List.setIfInBounds_toArray, List.set_cons_zero, List.set_cons_succ]; done) | (simp only [putAll, Act.put, List.setIfInBounds_toArray, List.set_cons_zero, List.set_cons_succ]; rfl)) (hJ3_4_8_9_11 (ga, (Avk, cvk), gb, (Avv, cvv), g7) _ ⟨hHeld, HB.out, B1.out, B2.out, B4.out, HK.out, HV.out, B7.out, NE1.out, NE2.out, NE4.out, G7.out⟩)
   ·
    skip
    rintro ⟨ga, ⟨Avk, cvk⟩, gb, ⟨Avv, cvv⟩⟩ p5_3_4_8_9 ⟨hS_, h0_, h1_, h2_, h3_, h4_, h5_⟩
    have HB : Aside0 (Below w.heap.size w p5_3_4_8_9) := ⟨h0_⟩
    have B1 : Aside0 (p5_3_4_8_9.heap[g1]? = some (.cells #[.bool false, .slice (some ad) Ks.length c1, .slice A2 Vs.length c2, .slice A3 Cs.length c3] 25 (0, 0))) := ⟨h1_⟩
    have B2 : Aside0 (p5_3_4_8_9.heap[g2]? = some (.cells #[.bool false, .slice none 0 0, .slice none 0 0, .slice none 0 0] 25 (0, 0))) := ⟨h2_⟩
    have B4 : Aside0 (p5_3_4_8_9.heap[g4]? = some (.cells #[.bool false, .slice none 0 0, .slice none 0 0, .slice none 0 0] 25 (0, 0))) := ⟨h3_⟩
    have HK : Aside0 (Kd.R Kd.string 9 p5_3_4_8_9 w.heap.size (fun _ => True) (.slice Avk k1_.length cvk) k1_) := ⟨h4_⟩
    have HV : Aside0 (Kd.R (Kd.int .i64) 3 p5_3_4_8_9 w.heap.size (fun _ => True) (.slice Avv v1_.length cvv) v1_) := ⟨h5_⟩
    have hHeld : p5_3_4_8_9.cell? ⟨g1, 1, none⟩ = some (.slice (some ad) Ks.length c1) ∧ p5_3_4_8_9.cell? ⟨g1, 3, none⟩ = some (.slice A3 Cs.length c3) := hS_
    refine norm_ (a' := ?_) ?_ ?_
    rotate_left
    ·
     simp only [putAll, Act.put, List.setIfInBounds_toArray, List.set_cons_zero, List.set_cons_succ]
     rfl
    refine one_ (i := 11) (N := some 8) (ba 13 4095) rfl rfl (by kernel_rfl) (by decide) (fun K hK => ?_)
    refine value_ (w1 := ?_) (v := ?_) (by rfl) rfl ?_ ?_
    rotate_left 2
    ·
     go_simp
     constructor
     ·
      rfl
     ·
      rfl
    refine hK.out _ _ ⟨((blk_cell (blk_alloc B1.out _) 1).trans rfl), ((blk_cell (blk_alloc B1.out _) 3).trans rfl)⟩ (fun hHeld => ?_)
    clear hK K
    refine norm_ (a' := ?_) ?_ ?_
    rotate_left
    ·
     show Act.put _ (some 8) _ = _
     simp only [Act.put, List.setIfInBounds_toArray, List.set_cons_zero, List.set_cons_succ, i64_w, i32_w]
     rfl
    exact norm_ (by first | (simp only [putAll, Act.put, List.setIfInBounds_toArray, List.set_cons_zero, List.set_cons_succ]; done) | (simp only [putAll, Act.put, List.setIfInBounds_toArray, List.set_cons_zero, List.set_cons_succ]; rfl)) (hJ3_4_8_9_11 (ga, (Avk, cvk), gb, (Avv, cvv), p5_3_4_8_9.heap.size) _ ⟨hHeld, below_alloc HB.out _, blk_alloc B1.out _, blk_alloc B2.out _, blk_alloc B4.out _, Kd.R_alloc HK.out _, Kd.R_alloc HV.out _, blk_new p5_3_4_8_9 _, Nat.ne_of_lt (blk_lt B1.out), Nat.ne_of_lt (blk_lt B2.out), Nat.ne_of_lt (blk_lt B4.out), below_size HB.out⟩)
  rintro ⟨ga, ⟨Avk, cvk⟩, gb, ⟨Avv, cvv⟩, g7⟩ p5_3_4_8_9_11 ⟨hS_, h0_, h1_, h2_, h3_, h4_, h5_, h6_, h7_, h8_, h9_, h10_⟩
  have HB : Aside0 (Below w.heap.size w p5_3_4_8_9_11) := ⟨h0_⟩
  have B1 : Aside0 (p5_3_4_8_9_11.heap[g1]? = some (.cells #[.bool false, .slice (some ad) Ks.length c1, .slice A2 Vs.length c2, .slice A3 Cs.length c3] 25 (0, 0))) := ⟨h1_⟩
  have B2 : Aside0 (p5_3_4_8_9_11.heap[g2]? = some (.cells #[.bool false, .slice none 0 0, .slice none 0 0, .slice none 0 0] 25 (0, 0))) := ⟨h2_⟩
  have B4 : Aside0 (p5_3_4_8_9_11.heap[g4]? = some (.cells #[.bool false, .slice none 0 0, .slice none 0 0, .slice none 0 0] 25 (0, 0))) := ⟨h3_⟩
  have HK : Aside0 (Kd.R Kd.string 9 p5_3_4_8_9_11 w.heap.size (fun _ => True) (.slice Avk k1_.length cvk) k1_) := ⟨h4_⟩
  have HV : Aside0 (Kd.R (Kd.int .i64) 3 p5_3_4_8_9_11 w.heap.size (fun _ => True) (.slice Avv v1_.length cvv) v1_) := ⟨h5_⟩
  have B7 : Aside0 (p5_3_4_8_9_11.heap[g7]? = some (.cells #[.bool false, .slice none 0 0, .slice none 0 0, .slice none 0 0] 25 (0, 0))) := ⟨h6_⟩
  have NE1 : Aside0 (g1 ≠ g7) := ⟨h7_⟩
  have NE2 : Aside0 (g2 ≠ g7) := ⟨h8_⟩
  have NE4 : Aside0 (g4 ≠ g7) := ⟨h9_⟩
  have G7 : Aside0 (w.heap.size ≤ g7) := ⟨h10_⟩
  have hHeld : p5_3_4_8_9_11.cell? ⟨g1, 1, none⟩ = some (.slice (some ad) Ks.length c1) ∧ p5_3_4_8_9_11.cell? ⟨g1, 3, none⟩ = some (.slice A3 Cs.length c3) := hS_
  refine norm_ (a' := ?_) ?_ ?_
  rotate_left
  ·
   simp only [putAll, Act.put, List.setIfInBounds_toArray, List.set_cons_zero, List.set_cons_succ]
   rfl
  refine last_ (i := 12) (N := none) (ba 13 8191) rfl rfl (by kernel_rfl) (by decide) (fun K hK => ?_)
  have x0 : p5_3_4_8_9_11.cell? ⟨g7, 0, none⟩ = some (.bool false) := bc B7.out
  have x1 : p5_3_4_8_9_11.cell? ⟨g7, 1, none⟩ = some (.slice none 0 0) := bc B7.out
  have x2 : p5_3_4_8_9_11.cell? ⟨g7, 2, none⟩ = some (.slice none 0 0) := bc B7.out
  have x3 : p5_3_4_8_9_11.cell? ⟨g7, 3, none⟩ = some (.slice none 0 0) := bc B7.out
  obtain ⟨xf0, xf1, xf2, xf3⟩ := z4 B7.out
  refine skip_ (w1 := ?_) (by rfl) rfl ?_ ?_
  rotate_left
  ·
   go_simp
   rfl
  refine hK.out _ _ ?_
  clear hK K
  refine done_ (by kernel_rfl) ?_
  clear x0 x1 x2 x3 xf0 xf1 xf2 xf3
  have X7 := am (show ((((p5_3_4_8_9_11.setCell ⟨g7, 0, none⟩ (.bool false)).setCell ⟨g7, 1, none⟩ (.slice Avk k1_.length cvk)).setCell ⟨g7, 2, none⟩ (.slice none 0 0)).setCell ⟨g7, 3, none⟩ (.slice Avv v1_.length cvv)).heap[g7]? = some (.cells #[.bool false, .slice Avk k1_.length cvk, .slice none 0 0, .slice Avv v1_.length cvv] 25 (0, 0)) from set4_put B7.out)
  have XB1 := am (show ((((p5_3_4_8_9_11.setCell ⟨g7, 0, none⟩ (.bool false)).setCell ⟨g7, 1, none⟩ (.slice Avk k1_.length cvk)).setCell ⟨g7, 2, none⟩ (.slice none 0 0)).setCell ⟨g7, 3, none⟩ (.slice Avv v1_.length cvv)).heap[g1]? = some (.cells #[.bool false, .slice (some ad) Ks.length c1, .slice A2 Vs.length c2, .slice A3 Cs.length c3] 25 (0, 0)) from set4_far B1.out NE1.out)
  have XB2 := am (show ((((p5_3_4_8_9_11.setCell ⟨g7, 0, none⟩ (.bool false)).setCell ⟨g7, 1, none⟩ (.slice Avk k1_.length cvk)).setCell ⟨g7, 2, none⟩ (.slice none 0 0)).setCell ⟨g7, 3, none⟩ (.slice Avv v1_.length cvv)).heap[g2]? = some (.cells #[.bool false, .slice none 0 0, .slice none 0 0, .slice none 0 0] 25 (0, 0)) from set4_far B2.out NE2.out)
  have XB4 := am (show ((((p5_3_4_8_9_11.setCell ⟨g7, 0, none⟩ (.bool false)).setCell ⟨g7, 1, none⟩ (.slice Avk k1_.length cvk)).setCell ⟨g7, 2, none⟩ (.slice none 0 0)).setCell ⟨g7, 3, none⟩ (.slice Avv v1_.length cvv)).heap[g4]? = some (.cells #[.bool false, .slice none 0 0, .slice none 0 0, .slice none 0 0] 25 (0, 0)) from set4_far B4.out NE4.out)
  have XHK := am (show Kd.R Kd.string 9 ((((p5_3_4_8_9_11.setCell ⟨g7, 0, none⟩ (.bool false)).setCell ⟨g7, 1, none⟩ (.slice Avk k1_.length cvk)).setCell ⟨g7, 2, none⟩ (.slice none 0 0)).setCell ⟨g7, 3, none⟩ (.slice Avv v1_.length cvv)) w.heap.size (fun _ => True) (.slice Avk k1_.length cvk) k1_ from set4_R HK.out B7.out (by decide))
  have XHV := am (show Kd.R (Kd.int .i64) 3 ((((p5_3_4_8_9_11.setCell ⟨g7, 0, none⟩ (.bool false)).setCell ⟨g7, 1, none⟩ (.slice Avk k1_.length cvk)).setCell ⟨g7, 2, none⟩ (.slice none 0 0)).setCell ⟨g7, 3, none⟩ (.slice Avv v1_.length cvv)) w.heap.size (fun _ => True) (.slice Avv v1_.length cvv) v1_ from set4_R HV.out B7.out (by decide))
  have XB := am (show Below w.heap.size w ((((p5_3_4_8_9_11.setCell ⟨g7, 0, none⟩ (.bool false)).setCell ⟨g7, 1, none⟩ (.slice Avk k1_.length cvk)).setCell ⟨g7, 2, none⟩ (.slice none 0 0)).setCell ⟨g7, 3, none⟩ (.slice Avv v1_.length cvv)) from set4_below HB.out G7.out)
  clear B7 B1 B2 B4 HK HV HB
  have B7 := X7
  have B1 := XB1
  have B2 := XB2
  have B4 := XB4
  have HK := XHK
  have HV := XHV
  have HB := XB
  clear X7 XB1 XB2 XB4 XHK XHV XB
  generalize (((p5_3_4_8_9_11.setCell ⟨g7, 0, none⟩ (.bool false)).setCell ⟨g7, 1, none⟩ (.slice Avk k1_.length cvk)).setCell ⟨g7, 2, none⟩ (.slice none 0 0)).setCell ⟨g7, 3, none⟩ (.slice Avv v1_.length cvv) = q6 at *
  go_upto_region 8 with fail
  replace HB := am (below_drew1 HB.out)
  replace B1 := am (blk_drew B1.out)
  replace B2 := am (blk_drew B2.out)
  replace B4 := am (blk_drew B4.out)
  replace B7 := am (blk_drew B7.out)
  replace HK := am (Kd.R_drew HK.out)
  replace HV := am (Kd.R_drew HV.out)
  refine start_ (n := 17) (S := fun w' => w'.cell? ⟨g7, 0, none⟩ = some (.bool false) ∧ w'.cell? ⟨g7, 1, none⟩ = some (.slice Avk k1_.length cvk) ∧ w'.cell? ⟨g7, 2, none⟩ = some (.slice none 0 0) ∧ w'.cell? ⟨g7, 3, none⟩ = some (.slice Avv v1_.length cvv) ∧ w'.cell? ⟨g1, 1, none⟩ = some (.slice (some ad) Ks.length c1) ∧ w'.cell? ⟨g1, 3, none⟩ = some (.slice A3 Cs.length c3)) (ds := [13, 15]) (ba 17 0) (by kernel_rfl) rfl rfl ⟨((blk_cell (B7.out) 0).trans rfl), ((blk_cell (B7.out) 1).trans rfl), ((blk_cell (B7.out) 2).trans rfl), ((blk_cell (B7.out) 3).trans rfl), ((blk_cell (B1.out) 1).trans rfl), ((blk_cell (B1.out) 3).trans rfl)⟩ (fun hHeld => ?_)
  generalize q6.drew = p6 at HB B1 B2 B4 B7 HK HV hHeld ⊢
  refine pure_ (i := 1) (N := some 62) (v := ?_) (a' := ?_) (ba 17 2) rfl rfl (by kernel_rfl) (fun _ _ _ h => h) (Or.inl ⟨by rfl, ?_⟩) ?_ ?_
  rotate_left
  ·
   intro w'
   go_simp
   with_reducible rfl
  rotate_left
  ·
   simp only [Act.put, List.setIfInBounds_toArray, List.set_cons_zero, List.set_cons_succ, i64_w, i32_w]
   rfl
  refine pure_ (i := 2) (N := some 63) (v := ?_) (a' := ?_) (ba 17 6) rfl rfl (by kernel_rfl) (fun _ _ _ h => h) (Or.inl ⟨by rfl, ?_⟩) ?_ ?_
  rotate_left
  ·
   intro w'
   go_simp
   with_reducible rfl
  rotate_left
  ·
   simp only [Act.put, List.setIfInBounds_toArray, List.set_cons_zero, List.set_cons_succ, i64_w, i32_w]
   rfl
  refine pure_ (i := 7) (N := some 68) (v := ?_) (a' := ?_) (ba 17 134) rfl rfl (by kernel_rfl) (fun _ _ _ h => h) (Or.inl ⟨by rfl, ?_⟩) ?_ ?_
  rotate_left
  ·
   intro w'
   go_simp
   with_reducible rfl
  rotate_left
  ·
   simp only [Act.put, List.setIfInBounds_toArray, List.set_cons_zero, List.set_cons_succ, i64_w, i32_w]
   rfl
  refine take_ (i := 0) (N := some 61) (v := ?_) (a' := ?_) (ba 17 135) rfl rfl (by kernel_rfl) (fun _ _ _ h => h) (Or.inl ⟨by rfl, ?_⟩) hHeld ?_ ?_
  rotate_left
  ·
   rintro w' ⟨s0, s1, s2, s3, s4, s5⟩
   go_simp
   with_reducible rfl
  rotate_left
  ·
   simp only [Act.put, List.setIfInBounds_toArray, List.set_cons_zero, List.set_cons_succ, i64_w, i32_w]
   rfl
  refine take_ (i := 3) (N := some 64) (v := ?_) (a' := ?_) (ba 17 143) rfl rfl (by kernel_rfl) (fun _ _ _ h => h) (Or.inl ⟨by rfl, ?_⟩) hHeld ?_ ?_
  rotate_left
  ·
   rintro w' ⟨s0, s1, s2, s3, s4, s5⟩
   go_simp
   with_reducible rfl
  rotate_left
  ·
   simp only [Act.put, List.setIfInBounds_toArray, List.set_cons_zero, List.set_cons_succ, i64_w, i32_w]
   rfl
  refine pure_ (i := 4) (N := some 65) (v := ?_) (a' := ?_) (ba 17 159) rfl rfl (by kernel_rfl) (fun _ _ _ h => h) (Or.inl ⟨by rfl, ?_⟩) ?_ ?_
  rotate_left
  ·
   intro w'
   go_simp
   with_reducible rfl
  rotate_left
  ·
   simp only [Act.put, List.setIfInBounds_toArray, List.set_cons_zero, List.set_cons_succ, i64_w, i32_w]
   rfl
  refine take_ (i := 8) (N := some 69) (v := ?_) (a' := ?_) (ba 17 415) rfl rfl (by kernel_rfl) (fun _ _ _ h => h) (Or.inl ⟨by rfl, ?_⟩) hHeld ?_ ?_
  rotate_left
  ·
   rintro w' ⟨s0, s1, s2, s3, s4, s5⟩
   go_simp
   with_reducible rfl
  rotate_left
  ·
   simp only [Act.put, List.setIfInBounds_toArray, List.set_cons_zero, List.set_cons_succ, i64_w, i32_w]
   rfl
  refine pure_ (i := 9) (N := some 70) (v := ?_) (a' := ?_) (ba 17 927) rfl rfl (by kernel_rfl) (fun _ _ _ h => h) (Or.inl ⟨by rfl, ?_⟩) ?_ ?_
  rotate_left
  ·
   intro w'
   go_simp
   with_reducible rfl
  rotate_left
  ·
   simp only [Act.put, List.setIfInBounds_toArray, List.set_cons_zero, List.set_cons_succ, i64_w, i32_w]
   rfl
  refine join_ (σ := Nat × (Option Addr × Nat) × Nat) 6 (ba 17 2047) (fun s_ => [(66, .slice (some ⟨s_.1, 0, none⟩) 1 1), (67, .slice (s_.2.1).1 k2_.length (s_.2.1).2), (71, .slice (some ⟨s_.2.2, 0, none⟩) 1 1)]) (fun s_ w' => (w'.cell? ⟨g7, 0, none⟩ = some (.bool false) ∧ w'.cell? ⟨g7, 1, none⟩ = some (.slice Avk k1_.length cvk) ∧ w'.cell? ⟨g7, 2, none⟩ = some (.slice none 0 0) ∧ w'.cell? ⟨g7, 3, none⟩ = some (.slice Avv v1_.length cvv) ∧ w'.cell? ⟨g1, 1, none⟩ = some (.slice (some ad) Ks.length c1) ∧ w'.cell? ⟨g1, 3, none⟩ = some (.slice A3 Cs.length c3)) ∧ (Below w.heap.size w w') ∧ (w'.heap[g1]? = some (.cells #[.bool false, .slice (some ad) Ks.length c1, .slice A2 Vs.length c2, .slice A3 Cs.length c3] 25 (0, 0))) ∧ (w'.heap[g2]? = some (.cells #[.bool false, .slice none 0 0, .slice none 0 0, .slice none 0 0] 25 (0, 0))) ∧ (w'.heap[g4]? = some (.cells #[.bool false, .slice none 0 0, .slice none 0 0, .slice none 0 0] 25 (0, 0))) ∧ (w'.heap[g7]? = some (.cells #[.bool false, .slice Avk k1_.length cvk, .slice none 0 0, .slice Avv v1_.length cvv] 25 (0, 0))) ∧ (Kd.R Kd.string 9 w' w.heap.size (fun _ => True) (.slice Avk k1_.length cvk) k1_) ∧ (Kd.R (Kd.int .i64) 3 w' w.heap.size (fun _ => True) (.slice Avv v1_.length cvv) v1_) ∧ (Kd.R Kd.string 9 w' w.heap.size (fun _ => True) (.slice (s_.2.1).1 k2_.length (s_.2.1).2) k2_) ∧ (Kd.C (Kd.slice 3 (Kd.int .i64)) w' (some ⟨s_.2.2, 0, none⟩) 1 [Cs.drop 5])) ?_ ?_
  rotate_left
  ·
   intro hJ5_6_10
   refine join_ (σ := Nat × (Option Addr × Nat)) 7 (ba 17 1023) (fun s_ => [(66, .slice (some ⟨s_.1, 0, none⟩) 1 1), (67, .slice (s_.2).1 k2_.length (s_.2).2)]) (fun s_ w' => (w'.cell? ⟨g7, 0, none⟩ = some (.bool false) ∧ w'.cell? ⟨g7, 1, none⟩ = some (.slice Avk k1_.length cvk) ∧ w'.cell? ⟨g7, 2, none⟩ = some (.slice none 0 0) ∧ w'.cell? ⟨g7, 3, none⟩ = some (.slice Avv v1_.length cvv) ∧ w'.cell? ⟨g1, 1, none⟩ = some (.slice (some ad) Ks.length c1) ∧ w'.cell? ⟨g1, 3, none⟩ = some (.slice A3 Cs.length c3)) ∧ (Below w.heap.size w w') ∧ (w'.heap[g1]? = some (.cells #[.bool false, .slice (some ad) Ks.length c1, .slice A2 Vs.length c2, .slice A3 Cs.length c3] 25 (0, 0))) ∧ (w'.heap[g2]? = some (.cells #[.bool false, .slice none 0 0, .slice none 0 0, .slice none 0 0] 25 (0, 0))) ∧ (w'.heap[g4]? = some (.cells #[.bool false, .slice none 0 0, .slice none 0 0, .slice none 0 0] 25 (0, 0))) ∧ (w'.heap[g7]? = some (.cells #[.bool false, .slice Avk k1_.length cvk, .slice none 0 0, .slice Avv v1_.length cvv] 25 (0, 0))) ∧ (Kd.R Kd.string 9 w' w.heap.size (fun _ => True) (.slice Avk k1_.length cvk) k1_) ∧ (Kd.R (Kd.int .i64) 3 w' w.heap.size (fun _ => True) (.slice Avv v1_.length cvv) v1_) ∧ (Kd.R Kd.string 9 w' w.heap.size (fun _ => True) (.slice (s_.2).1 k2_.length (s_.2).2) k2_)) ?_ ?_
   rotate_left
   ·
    intro hJ5_6
    refine join_ (σ := Nat × Nat) 7 (ba 17 1983) (fun s_ => [(66, .slice (some ⟨s_.1, 0, none⟩) 1 1), (71, .slice (some ⟨s_.2, 0, none⟩) 1 1)]) (fun s_ w' => (w'.cell? ⟨g7, 0, none⟩ = some (.bool false) ∧ w'.cell? ⟨g7, 1, none⟩ = some (.slice Avk k1_.length cvk) ∧ w'.cell? ⟨g7, 2, none⟩ = some (.slice none 0 0) ∧ w'.cell? ⟨g7, 3, none⟩ = some (.slice Avv v1_.length cvv) ∧ w'.cell? ⟨g1, 1, none⟩ = some (.slice (some ad) Ks.length c1) ∧ w'.cell? ⟨g1, 3, none⟩ = some (.slice A3 Cs.length c3)) ∧ (Below w.heap.size w w') ∧ (w'.heap[g1]? = some (.cells #[.bool false, .slice (some ad) Ks.length c1, .slice A2 Vs.length c2, .slice A3 Cs.length c3] 25 (0, 0))) ∧ (w'.heap[g2]? = some (.cells #[.bool false, .slice none 0 0, .slice none 0 0, .slice none 0 0] 25 (0, 0))) ∧ (w'.heap[g4]? = some (.cells #[.bool false, .slice none 0 0, .slice none 0 0, .slice none 0 0] 25 (0, 0))) ∧ (w'.heap[g7]? = some (.cells #[.bool false, .slice Avk k1_.length cvk, .slice none 0 0, .slice Avv v1_.length cvv] 25 (0, 0))) ∧ (Kd.R Kd.string 9 w' w.heap.size (fun _ => True) (.slice Avk k1_.length cvk) k1_) ∧ (Kd.R (Kd.int .i64) 3 w' w.heap.size (fun _ => True) (.slice Avv v1_.length cvv) v1_) ∧ (Kd.C (Kd.slice 9 Kd.string) w' (some ⟨s_.1, 0, none⟩) 1 [Ks.drop 5]) ∧ (Kd.C (Kd.slice 3 (Kd.int .i64)) w' (some ⟨s_.2, 0, none⟩) 1 [Cs.drop 5])) ?_ ?_
    rotate_left
    ·
     intro hJ5_10
     refine join_ (σ := Nat) 8 (ba 17 959) (fun s_ => [(66, .slice (some ⟨s_, 0, none⟩) 1 1)]) (fun s_ w' => (w'.cell? ⟨g7, 0, none⟩ = some (.bool false) ∧ w'.cell? ⟨g7, 1, none⟩ = some (.slice Avk k1_.length cvk) ∧ w'.cell? ⟨g7, 2, none⟩ = some (.slice none 0 0) ∧ w'.cell? ⟨g7, 3, none⟩ = some (.slice Avv v1_.length cvv) ∧ w'.cell? ⟨g1, 1, none⟩ = some (.slice (some ad) Ks.length c1) ∧ w'.cell? ⟨g1, 3, none⟩ = some (.slice A3 Cs.length c3)) ∧ (Below w.heap.size w w') ∧ (w'.heap[g1]? = some (.cells #[.bool false, .slice (some ad) Ks.length c1, .slice A2 Vs.length c2, .slice A3 Cs.length c3] 25 (0, 0))) ∧ (w'.heap[g2]? = some (.cells #[.bool false, .slice none 0 0, .slice none 0 0, .slice none 0 0] 25 (0, 0))) ∧ (w'.heap[g4]? = some (.cells #[.bool false, .slice none 0 0, .slice none 0 0, .slice none 0 0] 25 (0, 0))) ∧ (w'.heap[g7]? = some (.cells #[.bool false, .slice Avk k1_.length cvk, .slice none 0 0, .slice Avv v1_.length cvv] 25 (0, 0))) ∧ (Kd.R Kd.string 9 w' w.heap.size (fun _ => True) (.slice Avk k1_.length cvk) k1_) ∧ (Kd.R (Kd.int .i64) 3 w' w.heap.size (fun _ => True) (.slice Avv v1_.length cvv) v1_) ∧ (Kd.C (Kd.slice 9 Kd.string) w' (some ⟨s_, 0, none⟩) 1 [Ks.drop 5])) ?_ ?_
     rotate_left
     ·
      intro hJ5
      refine join_ (σ := Nat) 8 (ba 17 1951) (fun s_ => [(71, .slice (some ⟨s_, 0, none⟩) 1 1)]) (fun s_ w' => (w'.cell? ⟨g7, 0, none⟩ = some (.bool false) ∧ w'.cell? ⟨g7, 1, none⟩ = some (.slice Avk k1_.length cvk) ∧ w'.cell? ⟨g7, 2, none⟩ = some (.slice none 0 0) ∧ w'.cell? ⟨g7, 3, none⟩ = some (.slice Avv v1_.length cvv) ∧ w'.cell? ⟨g1, 1, none⟩ = some (.slice (some ad) Ks.length c1) ∧ w'.cell? ⟨g1, 3, none⟩ = some (.slice A3 Cs.length c3)) ∧ (Below w.heap.size w w') ∧ (w'.heap[g1]? = some (.cells #[.bool false, .slice (some ad) Ks.length c1, .slice A2 Vs.length c2, .slice A3 Cs.length c3] 25 (0, 0))) ∧ (w'.heap[g2]? = some (.cells #[.bool false, .slice none 0 0, .slice none 0 0, .slice none 0 0] 25 (0, 0))) ∧ (w'.heap[g4]? = some (.cells #[.bool false, .slice none 0 0, .slice none 0 0, .slice none 0 0] 25 (0, 0))) ∧ (w'.heap[g7]? = some (.cells #[.bool false, .slice Avk k1_.length cvk, .slice none 0 0, .slice Avv v1_.length cvv] 25 (0, 0))) ∧ (Kd.R Kd.string 9 w' w.heap.size (fun _ => True) (.slice Avk k1_.length cvk) k1_) ∧ (Kd.R (Kd.int .i64) 3 w' w.heap.size (fun _ => True) (.slice Avv v1_.length cvv) v1_) ∧ (Kd.C (Kd.slice 3 (Kd.int .i64)) w' (some ⟨s_, 0, none⟩) 1 [Cs.drop 5])) ?_ ?_
      rotate_left
      ·
       intro hJ10
       refine two_ (i := 5) (j := 10) (Ni := some 66) (Nj := some 71) (ba 17 959) (ba 17 1951) rfl rfl rfl rfl (by kernel_rfl) (by decide) (by decide) (fun K hK => ?_) (fun K hK => ?_)
       ·
        skip
        refine value_ (w1 := ?_) (v := ?_) (by rfl) rfl ?_ ?_
        rotate_left 2
        ·
         go_simp
         constructor
         ·
          rfl
         ·
          rfl
        refine hK.out _ _ ⟨((blk_cell (blk_alloc B7.out _) 0).trans rfl), ((blk_cell (blk_alloc B7.out _) 1).trans rfl), ((blk_cell (blk_alloc B7.out _) 2).trans rfl), ((blk_cell (blk_alloc B7.out _) 3).trans rfl), ((blk_cell (blk_alloc B1.out _) 1).trans rfl), ((blk_cell (blk_alloc B1.out _) 3).trans rfl)⟩ (fun hHeld => ?_)
        clear hK K
        refine norm_ (a' := ?_) ?_ ?_
        rotate_left
        ·
         show Act.put _ (some 66) _ = _
         simp only [Act.put, List.setIfInBounds_toArray, List.set_cons_zero, List.set_cons_succ, i64_w, i32_w]
         rfl
        exact norm_ (by first | (simp only [putAll, Act.put, List.setIfInBounds_toArray, List.set_cons_zero, List.set_cons_succ]; done) | (simp only [putAll, Act.put, List.setIfInBounds_toArray, List.set_cons_zero, List.set_cons_succ]; rfl)) (hJ5 (p6.heap.size) _ ⟨hHeld, below_alloc HB.out _, blk_alloc B1.out _, blk_alloc B2.out _, blk_alloc B4.out _, blk_alloc B7.out _, Kd.R_alloc HK.out _, Kd.R_alloc HV.out _, C_new_ss p6 (by rw [List.length_drop]) (by have := HC1.out; omega) (Kd.C_drop (Kd.C_below HR1.out HB.out) (by have := HL9.out; omega) HC1.out)⟩)
       ·
        skip
        refine value_ (w1 := ?_) (v := ?_) (by rfl) rfl ?_ ?_
        rotate_left 2
        ·
         go_simp
         constructor
         ·
          rfl
         ·
          rfl
        refine hK.out _ _ ⟨((blk_cell (blk_alloc B7.out _) 0).trans rfl), ((blk_cell (blk_alloc B7.out _) 1).trans rfl), ((blk_cell (blk_alloc B7.out _) 2).trans rfl), ((blk_cell (blk_alloc B7.out _) 3).trans rfl), ((blk_cell (blk_alloc B1.out _) 1).trans rfl), ((blk_cell (blk_alloc B1.out _) 3).trans rfl)⟩ (fun hHeld => ?_)
        clear hK K
        refine norm_ (a' := ?_) ?_ ?_
        rotate_left
        ·
         show Act.put _ (some 71) _ = _
         simp only [Act.put, List.setIfInBounds_toArray, List.set_cons_zero, List.set_cons_succ, i64_w, i32_w]
         rfl
        exact norm_ (by first | (simp only [putAll, Act.put, List.setIfInBounds_toArray, List.set_cons_zero, List.set_cons_succ]; done) | (simp only [putAll, Act.put, List.setIfInBounds_toArray, List.set_cons_zero, List.set_cons_succ]; rfl)) (hJ10 (p6.heap.size) _ ⟨hHeld, below_alloc HB.out _, blk_alloc B1.out _, blk_alloc B2.out _, blk_alloc B4.out _, blk_alloc B7.out _, Kd.R_alloc HK.out _, Kd.R_alloc HV.out _, C_new_si p6 (by rw [List.length_drop]) (by have := HC3.out; omega) (Kd.C_drop (Kd.C_below HR3.out HB.out) HV4.out HC3.out)⟩)
      ·
       skip
       rintro gb p6_10 ⟨hS_, h0_, h1_, h2_, h3_, h4_, h5_, h6_, h7_⟩
       have HB : Aside0 (Below w.heap.size w p6_10) := ⟨h0_⟩
       have B1 : Aside0 (p6_10.heap[g1]? = some (.cells #[.bool false, .slice (some ad) Ks.length c1, .slice A2 Vs.length c2, .slice A3 Cs.length c3] 25 (0, 0))) := ⟨h1_⟩
       have B2 : Aside0 (p6_10.heap[g2]? = some (.cells #[.bool false, .slice none 0 0, .slice none 0 0, .slice none 0 0] 25 (0, 0))) := ⟨h2_⟩
       have B4 : Aside0 (p6_10.heap[g4]? = some (.cells #[.bool false, .slice none 0 0, .slice none 0 0, .slice none 0 0] 25 (0, 0))) := ⟨h3_⟩
       have B7 : Aside0 (p6_10.heap[g7]? = some (.cells #[.bool false, .slice Avk k1_.length cvk, .slice none 0 0, .slice Avv v1_.length cvv] 25 (0, 0))) := ⟨h4_⟩
       have HK : Aside0 (Kd.R Kd.string 9 p6_10 w.heap.size (fun _ => True) (.slice Avk k1_.length cvk) k1_) := ⟨h5_⟩
       have HV : Aside0 (Kd.R (Kd.int .i64) 3 p6_10 w.heap.size (fun _ => True) (.slice Avv v1_.length cvv) v1_) := ⟨h6_⟩
       have BB : Aside0 (Kd.C (Kd.slice 3 (Kd.int .i64)) p6_10 (some ⟨gb, 0, none⟩) 1 [Cs.drop 5]) := ⟨h7_⟩
       have hHeld : p6_10.cell? ⟨g7, 0, none⟩ = some (.bool false) ∧ p6_10.cell? ⟨g7, 1, none⟩ = some (.slice Avk k1_.length cvk) ∧ p6_10.cell? ⟨g7, 2, none⟩ = some (.slice none 0 0) ∧ p6_10.cell? ⟨g7, 3, none⟩ = some (.slice Avv v1_.length cvv) ∧ p6_10.cell? ⟨g1, 1, none⟩ = some (.slice (some ad) Ks.length c1) ∧ p6_10.cell? ⟨g1, 3, none⟩ = some (.slice A3 Cs.length c3) := hS_
       refine norm_ (a' := ?_) ?_ ?_
       rotate_left
       ·
        simp only [putAll, Act.put, List.setIfInBounds_toArray, List.set_cons_zero, List.set_cons_succ]
        rfl
       refine one_ (i := 5) (N := some 66) (ba 17 1983) rfl rfl (by kernel_rfl) (by decide) (fun K hK => ?_)
       refine value_ (w1 := ?_) (v := ?_) (by rfl) rfl ?_ ?_
       rotate_left 2
       ·
        go_simp
        constructor
        ·
         rfl
        ·
         rfl
       refine hK.out _ _ ⟨((blk_cell (blk_alloc B7.out _) 0).trans rfl), ((blk_cell (blk_alloc B7.out _) 1).trans rfl), ((blk_cell (blk_alloc B7.out _) 2).trans rfl), ((blk_cell (blk_alloc B7.out _) 3).trans rfl), ((blk_cell (blk_alloc B1.out _) 1).trans rfl), ((blk_cell (blk_alloc B1.out _) 3).trans rfl)⟩ (fun hHeld => ?_)
       clear hK K
       refine norm_ (a' := ?_) ?_ ?_
       rotate_left
       ·
        show Act.put _ (some 66) _ = _
        simp only [Act.put, List.setIfInBounds_toArray, List.set_cons_zero, List.set_cons_succ, i64_w, i32_w]
        rfl
       exact norm_ (by first | (simp only [putAll, Act.put, List.setIfInBounds_toArray, List.set_cons_zero, List.set_cons_succ]; done) | (simp only [putAll, Act.put, List.setIfInBounds_toArray, List.set_cons_zero, List.set_cons_succ]; rfl)) (hJ5_10 (p6_10.heap.size, gb) _ ⟨hHeld, below_alloc HB.out _, blk_alloc B1.out _, blk_alloc B2.out _, blk_alloc B4.out _, blk_alloc B7.out _, Kd.R_alloc HK.out _, Kd.R_alloc HV.out _, C_new_ss p6_10 (by rw [List.length_drop]) (by have := HC1.out; omega) (Kd.C_drop (Kd.C_below HR1.out HB.out) (by have := HL9.out; omega) HC1.out), Kd.C_alloc BB.out _⟩)
     ·
      skip
      rintro ga p6_5 ⟨hS_, h0_, h1_, h2_, h3_, h4_, h5_, h6_, h7_⟩
      have HB : Aside0 (Below w.heap.size w p6_5) := ⟨h0_⟩
      have B1 : Aside0 (p6_5.heap[g1]? = some (.cells #[.bool false, .slice (some ad) Ks.length c1, .slice A2 Vs.length c2, .slice A3 Cs.length c3] 25 (0, 0))) := ⟨h1_⟩
      have B2 : Aside0 (p6_5.heap[g2]? = some (.cells #[.bool false, .slice none 0 0, .slice none 0 0, .slice none 0 0] 25 (0, 0))) := ⟨h2_⟩
      have B4 : Aside0 (p6_5.heap[g4]? = some (.cells #[.bool false, .slice none 0 0, .slice none 0 0, .slice none 0 0] 25 (0, 0))) := ⟨h3_⟩
      have B7 : Aside0 (p6_5.heap[g7]? = some (.cells #[.bool false, .slice Avk k1_.length cvk, .slice none 0 0, .slice Avv v1_.length cvv] 25 (0, 0))) := ⟨h4_⟩
      have HK : Aside0 (Kd.R Kd.string 9 p6_5 w.heap.size (fun _ => True) (.slice Avk k1_.length cvk) k1_) := ⟨h5_⟩
      have HV : Aside0 (Kd.R (Kd.int .i64) 3 p6_5 w.heap.size (fun _ => True) (.slice Avv v1_.length cvv) v1_) := ⟨h6_⟩
      have BA : Aside0 (Kd.C (Kd.slice 9 Kd.string) p6_5 (some ⟨ga, 0, none⟩) 1 [Ks.drop 5]) := ⟨h7_⟩
      have hHeld : p6_5.cell? ⟨g7, 0, none⟩ = some (.bool false) ∧ p6_5.cell? ⟨g7, 1, none⟩ = some (.slice Avk k1_.length cvk) ∧ p6_5.cell? ⟨g7, 2, none⟩ = some (.slice none 0 0) ∧ p6_5.cell? ⟨g7, 3, none⟩ = some (.slice Avv v1_.length cvv) ∧ p6_5.cell? ⟨g1, 1, none⟩ = some (.slice (some ad) Ks.length c1) ∧ p6_5.cell? ⟨g1, 3, none⟩ = some (.slice A3 Cs.length c3) := hS_
      refine norm_ (a' := ?_) ?_ ?_
      rotate_left
      ·
       simp only [putAll, Act.put, List.setIfInBounds_toArray, List.set_cons_zero, List.set_cons_succ]
       rfl
      refine two_ (i := 6) (j := 10) (Ni := some 67) (Nj := some 71) (ba 17 1023) (ba 17 1983) rfl rfl rfl rfl (by kernel_rfl) (by decide) (by decide) (fun K hK => ?_) (fun K hK => ?_)
      ·
       skip
       refine goes_ Try.func36 (by kernel_rfl) rfl #[.slice (some ⟨ga, 0, none⟩) ([Ks.drop 5] : List _).length 1] (by rfl) rfl rfl (by simp only [List.map_toArray, List.map_cons, List.map_nil]; rfl) ?_
       with_reducible refine (node_rows_string.calls k _ 1 [Ks.drop 5] k2_ _ BA.out (Nat.le_refl _) T3.out).mono ?_
       rintro e wc_ ⟨uk, rfl, ho_, hb⟩
       refine ⟨_, rfl, ?_⟩
       obtain ⟨Auk, cuk, e_⟩ := Kd.R_slice ho_
       subst e_
       have HK2 := am (Kd.R_lower ho_ (below_size HB.out))
       have B1 := am (blk_below B1.out hb)
       have B2 := am (blk_below B2.out hb)
       have B4 := am (blk_below B4.out hb)
       have B7 := am (blk_below B7.out hb)
       have HK := am (Kd.R_below HK.out hb)
       have HV := am (Kd.R_below HV.out hb)
       have HB := am (below_step HB.out hb)
       clear ho_ hb
       refine hK.out _ _ ⟨((blk_cell (B7.out) 0).trans rfl), ((blk_cell (B7.out) 1).trans rfl), ((blk_cell (B7.out) 2).trans rfl), ((blk_cell (B7.out) 3).trans rfl), ((blk_cell (B1.out) 1).trans rfl), ((blk_cell (B1.out) 3).trans rfl)⟩ (fun hHeld => ?_)
       clear hK K
       refine norm_ (a' := ?_) ?_ ?_
       rotate_left
       ·
        show Act.put _ (some 67) _ = _
        simp only [Act.put, List.setIfInBounds_toArray, List.set_cons_zero, List.set_cons_succ, i64_w, i32_w]
        rfl
       exact norm_ (by first | (simp only [putAll, Act.put, List.setIfInBounds_toArray, List.set_cons_zero, List.set_cons_succ]; done) | (simp only [putAll, Act.put, List.setIfInBounds_toArray, List.set_cons_zero, List.set_cons_succ]; rfl)) (hJ5_6 (ga, (Auk, cuk)) _ ⟨hHeld, HB.out, B1.out, B2.out, B4.out, B7.out, HK.out, HV.out, HK2.out⟩)
      ·
       skip
       refine value_ (w1 := ?_) (v := ?_) (by rfl) rfl ?_ ?_
       rotate_left 2
       ·
        go_simp
        constructor
        ·
         rfl
        ·
         rfl
       refine hK.out _ _ ⟨((blk_cell (blk_alloc B7.out _) 0).trans rfl), ((blk_cell (blk_alloc B7.out _) 1).trans rfl), ((blk_cell (blk_alloc B7.out _) 2).trans rfl), ((blk_cell (blk_alloc B7.out _) 3).trans rfl), ((blk_cell (blk_alloc B1.out _) 1).trans rfl), ((blk_cell (blk_alloc B1.out _) 3).trans rfl)⟩ (fun hHeld => ?_)
       clear hK K
       refine norm_ (a' := ?_) ?_ ?_
       rotate_left
       ·
        show Act.put _ (some 71) _ = _
        simp only [Act.put, List.setIfInBounds_toArray, List.set_cons_zero, List.set_cons_succ, i64_w, i32_w]
        rfl
       exact norm_ (by first | (simp only [putAll, Act.put, List.setIfInBounds_toArray, List.set_cons_zero, List.set_cons_succ]; done) | (simp only [putAll, Act.put, List.setIfInBounds_toArray, List.set_cons_zero, List.set_cons_succ]; rfl)) (hJ5_10 (ga, p6_5.heap.size) _ ⟨hHeld, below_alloc HB.out _, blk_alloc B1.out _, blk_alloc B2.out _, blk_alloc B4.out _, blk_alloc B7.out _, Kd.R_alloc HK.out _, Kd.R_alloc HV.out _, Kd.C_alloc BA.out _, C_new_si p6_5 (by rw [List.length_drop]) (by have := HC3.out; omega) (Kd.C_drop (Kd.C_below HR3.out HB.out) HV4.out HC3.out)⟩)
    ·
     skip
     rintro ⟨ga, gb⟩ p6_5_10 ⟨hS_, h0_, h1_, h2_, h3_, h4_, h5_, h6_, h7_, h8_⟩
     have HB : Aside0 (Below w.heap.size w p6_5_10) := ⟨h0_⟩
     have B1 : Aside0 (p6_5_10.heap[g1]? = some (.cells #[.bool false, .slice (some ad) Ks.length c1, .slice A2 Vs.length c2, .slice A3 Cs.length c3] 25 (0, 0))) := ⟨h1_⟩
     have B2 : Aside0 (p6_5_10.heap[g2]? = some (.cells #[.bool false, .slice none 0 0, .slice none 0 0, .slice none 0 0] 25 (0, 0))) := ⟨h2_⟩
     have B4 : Aside0 (p6_5_10.heap[g4]? = some (.cells #[.bool false, .slice none 0 0, .slice none 0 0, .slice none 0 0] 25 (0, 0))) := ⟨h3_⟩
     have B7 : Aside0 (p6_5_10.heap[g7]? = some (.cells #[.bool false, .slice Avk k1_.length cvk, .slice none 0 0, .slice Avv v1_.length cvv] 25 (0, 0))) := ⟨h4_⟩
     have HK : Aside0 (Kd.R Kd.string 9 p6_5_10 w.heap.size (fun _ => True) (.slice Avk k1_.length cvk) k1_) := ⟨h5_⟩
     have HV : Aside0 (Kd.R (Kd.int .i64) 3 p6_5_10 w.heap.size (fun _ => True) (.slice Avv v1_.length cvv) v1_) := ⟨h6_⟩
     have BA : Aside0 (Kd.C (Kd.slice 9 Kd.string) p6_5_10 (some ⟨ga, 0, none⟩) 1 [Ks.drop 5]) := ⟨h7_⟩
     have BB : Aside0 (Kd.C (Kd.slice 3 (Kd.int .i64)) p6_5_10 (some ⟨gb, 0, none⟩) 1 [Cs.drop 5]) := ⟨h8_⟩
     have hHeld : p6_5_10.cell? ⟨g7, 0, none⟩ = some (.bool false) ∧ p6_5_10.cell? ⟨g7, 1, none⟩ = some (.slice Avk k1_.length cvk) ∧ p6_5_10.cell? ⟨g7, 2, none⟩ = some (.slice none 0 0) ∧ p6_5_10.cell? ⟨g7, 3, none⟩ = some (.slice Avv v1_.length cvv) ∧ p6_5_10.cell? ⟨g1, 1, none⟩ = some (.slice (some ad) Ks.length c1) ∧ p6_5_10.cell? ⟨g1, 3, none⟩ = some (.slice A3 Cs.length c3) := hS_
     refine norm_ (a' := ?_) ?_ ?_
     rotate_left
     ·
      simp only [putAll, Act.put, List.setIfInBounds_toArray, List.set_cons_zero, List.set_cons_succ]
      rfl
     refine one_ (i := 6) (N := some 67) (ba 17 2047) rfl rfl (by kernel_rfl) (by decide) (fun K hK => ?_)
     refine goes_ Try.func36 (by kernel_rfl) rfl #[.slice (some ⟨ga, 0, none⟩) ([Ks.drop 5] : List _).length 1] (by rfl) rfl rfl (by simp only [List.map_toArray, List.map_cons, List.map_nil]; rfl) ?_
     with_reducible refine (node_rows_string.calls k _ 1 [Ks.drop 5] k2_ _ BA.out (Nat.le_refl _) T3.out).mono ?_
     rintro e wc_ ⟨uk, rfl, ho_, hb⟩
     refine ⟨_, rfl, ?_⟩
     obtain ⟨Auk, cuk, e_⟩ := Kd.R_slice ho_
     subst e_
     have HK2 := am (Kd.R_lower ho_ (below_size HB.out))
     have B1 := am (blk_below B1.out hb)
     have B2 := am (blk_below B2.out hb)
     have B4 := am (blk_below B4.out hb)
     have B7 := am (blk_below B7.out hb)
     have HK := am (Kd.R_below HK.out hb)
     have HV := am (Kd.R_below HV.out hb)
     have BB := am (Kd.C_below BB.out hb)
     have HB := am (below_step HB.out hb)
     clear ho_ hb
     refine hK.out _ _ ⟨((blk_cell (B7.out) 0).trans rfl), ((blk_cell (B7.out) 1).trans rfl), ((blk_cell (B7.out) 2).trans rfl), ((blk_cell (B7.out) 3).trans rfl), ((blk_cell (B1.out) 1).trans rfl), ((blk_cell (B1.out) 3).trans rfl)⟩ (fun hHeld => ?_)
     clear hK K
     refine norm_ (a' := ?_) ?_ ?_
     rotate_left
     ·
      show Act.put _ (some 67) _ = _
      simp only [Act.put, List.setIfInBounds_toArray, List.set_cons_zero, List.set_cons_succ, i64_w, i32_w]
      rfl
     exact norm_ (by first | (simp only [putAll, Act.put, List.setIfInBounds_toArray, List.set_cons_zero, List.set_cons_succ]; done) | (simp only [putAll, Act.put, List.setIfInBounds_toArray, List.set_cons_zero, List.set_cons_succ]; rfl)) (hJ5_6_10 (ga, (Auk, cuk), gb) _ ⟨hHeld, HB.out, B1.out, B2.out, B4.out, B7.out, HK.out, HV.out, HK2.out, BB.out⟩)
   ·
    skip
    rintro ⟨ga, ⟨Auk, cuk⟩⟩ p6_5_6 ⟨hS_, h0_, h1_, h2_, h3_, h4_, h5_, h6_, h7_⟩
    have HB : Aside0 (Below w.heap.size w p6_5_6) := ⟨h0_⟩
    have B1 : Aside0 (p6_5_6.heap[g1]? = some (.cells #[.bool false, .slice (some ad) Ks.length c1, .slice A2 Vs.length c2, .slice A3 Cs.length c3] 25 (0, 0))) := ⟨h1_⟩
    have B2 : Aside0 (p6_5_6.heap[g2]? = some (.cells #[.bool false, .slice none 0 0, .slice none 0 0, .slice none 0 0] 25 (0, 0))) := ⟨h2_⟩
    have B4 : Aside0 (p6_5_6.heap[g4]? = some (.cells #[.bool false, .slice none 0 0, .slice none 0 0, .slice none 0 0] 25 (0, 0))) := ⟨h3_⟩
    have B7 : Aside0 (p6_5_6.heap[g7]? = some (.cells #[.bool false, .slice Avk k1_.length cvk, .slice none 0 0, .slice Avv v1_.length cvv] 25 (0, 0))) := ⟨h4_⟩
    have HK : Aside0 (Kd.R Kd.string 9 p6_5_6 w.heap.size (fun _ => True) (.slice Avk k1_.length cvk) k1_) := ⟨h5_⟩
    have HV : Aside0 (Kd.R (Kd.int .i64) 3 p6_5_6 w.heap.size (fun _ => True) (.slice Avv v1_.length cvv) v1_) := ⟨h6_⟩
    have HK2 : Aside0 (Kd.R Kd.string 9 p6_5_6 w.heap.size (fun _ => True) (.slice Auk k2_.length cuk) k2_) := ⟨h7_⟩
    have hHeld : p6_5_6.cell? ⟨g7, 0, none⟩ = some (.bool false) ∧ p6_5_6.cell? ⟨g7, 1, none⟩ = some (.slice Avk k1_.length cvk) ∧ p6_5_6.cell? ⟨g7, 2, none⟩ = some (.slice none 0 0) ∧ p6_5_6.cell? ⟨g7, 3, none⟩ = some (.slice Avv v1_.length cvv) ∧ p6_5_6.cell? ⟨g1, 1, none⟩ = some (.slice (some ad) Ks.length c1) ∧ p6_5_6.cell? ⟨g1, 3, none⟩ = some (.slice A3 Cs.length c3) := hS_
    refine norm_ (a' := ?_) ?_ ?_
    rotate_left
    ·
     simp only [putAll, Act.put, List.setIfInBounds_toArray, List.set_cons_zero, List.set_cons_succ]
     rfl
    refine one_ (i := 10) (N := some 71) (ba 17 2047) rfl rfl (by kernel_rfl) (by decide) (fun K hK => ?_)
    refine value_ (w1 := ?_) (v := ?_) (by rfl) rfl ?_ ?_
    rotate_left 2
    ·
     go_simp
     constructor
     ·
      rfl
     ·
      rfl
    refine hK.out _ _ ⟨((blk_cell (blk_alloc B7.out _) 0).trans rfl), ((blk_cell (blk_alloc B7.out _) 1).trans rfl), ((blk_cell (blk_alloc B7.out _) 2).trans rfl), ((blk_cell (blk_alloc B7.out _) 3).trans rfl), ((blk_cell (blk_alloc B1.out _) 1).trans rfl), ((blk_cell (blk_alloc B1.out _) 3).trans rfl)⟩ (fun hHeld => ?_)
    clear hK K
    refine norm_ (a' := ?_) ?_ ?_
    rotate_left
    ·
     show Act.put _ (some 71) _ = _
     simp only [Act.put, List.setIfInBounds_toArray, List.set_cons_zero, List.set_cons_succ, i64_w, i32_w]
     rfl
    exact norm_ (by first | (simp only [putAll, Act.put, List.setIfInBounds_toArray, List.set_cons_zero, List.set_cons_succ]; done) | (simp only [putAll, Act.put, List.setIfInBounds_toArray, List.set_cons_zero, List.set_cons_succ]; rfl)) (hJ5_6_10 (ga, (Auk, cuk), p6_5_6.heap.size) _ ⟨hHeld, below_alloc HB.out _, blk_alloc B1.out _, blk_alloc B2.out _, blk_alloc B4.out _, blk_alloc B7.out _, Kd.R_alloc HK.out _, Kd.R_alloc HV.out _, Kd.R_alloc HK2.out _, C_new_si p6_5_6 (by rw [List.length_drop]) (by have := HC3.out; omega) (Kd.C_drop (Kd.C_below HR3.out HB.out) HV4.out HC3.out)⟩)
  rintro ⟨ga, ⟨Auk, cuk⟩, gb⟩ p6_5_6_10 ⟨hS_, h0_, h1_, h2_, h3_, h4_, h5_, h6_, h7_, h8_⟩
  have HB : Aside0 (Below w.heap.size w p6_5_6_10) := ⟨h0_⟩
  have B1 : Aside0 (p6_5_6_10.heap[g1]? = some (.cells #[.bool false, .slice (some ad) Ks.length c1, .slice A2 Vs.length c2, .slice A3 Cs.length c3] 25 (0, 0))) := ⟨h1_⟩
  have B2 : Aside0 (p6_5_6_10.heap[g2]? = some (.cells #[.bool false, .slice none 0 0, .slice none 0 0, .slice none 0 0] 25 (0, 0))) := ⟨h2_⟩
  have B4 : Aside0 (p6_5_6_10.heap[g4]? = some (.cells #[.bool false, .slice none 0 0, .slice none 0 0, .slice none 0 0] 25 (0, 0))) := ⟨h3_⟩
  have B7 : Aside0 (p6_5_6_10.heap[g7]? = some (.cells #[.bool false, .slice Avk k1_.length cvk, .slice none 0 0, .slice Avv v1_.length cvv] 25 (0, 0))) := ⟨h4_⟩
  have HK : Aside0 (Kd.R Kd.string 9 p6_5_6_10 w.heap.size (fun _ => True) (.slice Avk k1_.length cvk) k1_) := ⟨h5_⟩
  have HV : Aside0 (Kd.R (Kd.int .i64) 3 p6_5_6_10 w.heap.size (fun _ => True) (.slice Avv v1_.length cvv) v1_) := ⟨h6_⟩
  have HK2 : Aside0 (Kd.R Kd.string 9 p6_5_6_10 w.heap.size (fun _ => True) (.slice Auk k2_.length cuk) k2_) := ⟨h7_⟩
  have BB : Aside0 (Kd.C (Kd.slice 3 (Kd.int .i64)) p6_5_6_10 (some ⟨gb, 0, none⟩) 1 [Cs.drop 5]) := ⟨h8_⟩
  have hHeld : p6_5_6_10.cell? ⟨g7, 0, none⟩ = some (.bool false) ∧ p6_5_6_10.cell? ⟨g7, 1, none⟩ = some (.slice Avk k1_.length cvk) ∧ p6_5_6_10.cell? ⟨g7, 2, none⟩ = some (.slice none 0 0) ∧ p6_5_6_10.cell? ⟨g7, 3, none⟩ = some (.slice Avv v1_.length cvv) ∧ p6_5_6_10.cell? ⟨g1, 1, none⟩ = some (.slice (some ad) Ks.length c1) ∧ p6_5_6_10.cell? ⟨g1, 3, none⟩ = some (.slice A3 Cs.length c3) := hS_
  refine norm_ (a' := ?_) ?_ ?_
  rotate_left
  ·
   simp only [putAll, Act.put, List.setIfInBounds_toArray, List.set_cons_zero, List.set_cons_succ]
   rfl
  refine one_ (i := 11) (N := some 72) (ba 17 4095) rfl rfl (by kernel_rfl) (by decide) (fun K hK => ?_)
  refine goes_ Try.func37 (by kernel_rfl) rfl #[.slice (some ⟨gb, 0, none⟩) ([Cs.drop 5] : List _).length 1] (by rfl) rfl rfl (by simp only [List.map_toArray, List.map_cons, List.map_nil]; rfl) ?_
  with_reducible refine (node_rows_int.calls k _ 1 [Cs.drop 5] v2_ _ BB.out (Nat.le_refl _) T4.out).mono ?_
  rintro e wc_ ⟨uv, rfl, ho_, hb⟩
  refine ⟨_, rfl, ?_⟩
  obtain ⟨Auv, cuv, e_⟩ := Kd.R_slice ho_
  subst e_
  have HV2 := am (Kd.R_lower ho_ (below_size HB.out))
  have B1 := am (blk_below B1.out hb)
  have B2 := am (blk_below B2.out hb)
  have B4 := am (blk_below B4.out hb)
  have B7 := am (blk_below B7.out hb)
  have HK := am (Kd.R_below HK.out hb)
  have HV := am (Kd.R_below HV.out hb)
  have HK2 := am (Kd.R_below HK2.out hb)
  have HB := am (below_step HB.out hb)
  clear ho_ hb
  refine hK.out _ _ ⟨((blk_cell (B7.out) 0).trans rfl), ((blk_cell (B7.out) 1).trans rfl), ((blk_cell (B7.out) 2).trans rfl), ((blk_cell (B7.out) 3).trans rfl), ((blk_cell (B1.out) 1).trans rfl), ((blk_cell (B1.out) 3).trans rfl)⟩ (fun hHeld => ?_)
  clear hK K
  refine norm_ (a' := ?_) ?_ ?_
  rotate_left
  ·
   show Act.put _ (some 72) _ = _
   simp only [Act.put, List.setIfInBounds_toArray, List.set_cons_zero, List.set_cons_succ, i64_w, i32_w]
   rfl
  refine pure_ (i := 12) (N := some 73) (v := ?_) (a' := ?_) (ba 17 8191) rfl rfl (by kernel_rfl) (fun _ _ _ h => h) (Or.inl ⟨by rfl, ?_⟩) ?_ ?_
  rotate_left
  ·
   intro w'
   go_simp
   with_reducible rfl
  rotate_left
  ·
   simp only [Act.put, List.setIfInBounds_toArray, List.set_cons_zero, List.set_cons_succ, i64_w, i32_w]
   rfl
  refine last_ (i := 13) (N := none) (ba 17 16383) rfl rfl (by kernel_rfl) (by decide) (fun K hK => ?_)
  have z0 : wc_.cell? ⟨g2, 0, none⟩ = some (.bool false) := bc B2.out
  have z1 : wc_.cell? ⟨g2, 1, none⟩ = some (.slice none 0 0) := bc B2.out
  have z2 : wc_.cell? ⟨g2, 2, none⟩ = some (.slice none 0 0) := bc B2.out
  have z3 : wc_.cell? ⟨g2, 3, none⟩ = some (.slice none 0 0) := bc B2.out
  obtain ⟨zf0, zf1, zf2, zf3⟩ := z4 B2.out
  refine skip_ (w1 := ?_) (by rfl) rfl ?_ ?_
  rotate_left
  ·
   go_simp
   rfl
  refine hK.out _ _ ?_
  clear hK K
  refine pure_ (i := 14) (N := some 3) (v := ?_) (a' := ?_) (ba 17 32767) rfl rfl (by kernel_rfl) (fun _ _ _ h => h) (Or.inl ⟨by rfl, ?_⟩) ?_ ?_
  rotate_left
  ·
   intro w'
   go_simp
   with_reducible rfl
  rotate_left
  ·
   simp only [Act.put, List.setIfInBounds_toArray, List.set_cons_zero, List.set_cons_succ, i64_w, i32_w]
   rfl
  refine last_ (i := 15) (N := none) (ba 17 65535) rfl rfl (by kernel_rfl) (by decide) (fun K hK => ?_)
  skip
  have y0 : wc_.cell? ⟨g4, 0, none⟩ = some (.bool false) := bc B4.out
  have y1 : wc_.cell? ⟨g4, 1, none⟩ = some (.slice none 0 0) := bc B4.out
  have y2 : wc_.cell? ⟨g4, 2, none⟩ = some (.slice none 0 0) := bc B4.out
  have y3 : wc_.cell? ⟨g4, 3, none⟩ = some (.slice none 0 0) := bc B4.out
  obtain ⟨yf0, yf1, yf2, yf3⟩ := z4 B4.out
  refine skip_ (w1 := ?_) (by rfl) rfl ?_ ?_
  rotate_left
  ·
   go_simp
   rfl
  refine hK.out _ _ ?_
  clear hK K
  refine pure_ (i := 16) (N := some 5) (v := ?_) (a' := ?_) (ba 17 131071) rfl rfl (by kernel_rfl) (fun _ _ _ h => h) (Or.inl ⟨by rfl, ?_⟩) ?_ ?_
  rotate_left
  ·
   intro w'
   go_simp
   with_reducible rfl
  rotate_left
  ·
   simp only [Act.put, List.setIfInBounds_toArray, List.set_cons_zero, List.set_cons_succ, i64_w, i32_w]
   rfl
  refine done_ (by kernel_rfl) ?_
  try go_wp2
  all_goals (refine bodyPost_ret (results_list (rs := [.cell 2 25, .tmp 3, .cell 4 25, .tmp 5]) rfl (by simp) (.cell g2 25 #[.bool false, .slice Avk k1_.length cvk, .slice none 0 0, .slice Avv v1_.length cvv] (0, 0) _ rfl (set4_far (set4_put B2.out) N24.out) Try.underlying25 rfl (by kernel_rfl) (.tmp (.cell g4 25 #[.bool false, .slice Auk k2_.length cuk, .slice none 0 0, .slice Auv v2_.length cuv] (0, 0) _ rfl (set4_put (set4_far B4.out N42.out)) Try.underlying25 rfl (by kernel_rfl) (.tmp .nil))))) rfl ?_; exact ⟨_, _, _, _, _, _, rfl, set4_R (set4_R HK.out B2.out (by decide)) (set4_far B4.out N42.out) (by decide), Kd.R_nil _ _ _ _ _, set4_R (set4_R HV.out B2.out (by decide)) (set4_far B4.out N42.out) (by decide), set4_R (set4_R HK2.out B2.out (by decide)) (set4_far B4.out N42.out) (by decide), Kd.R_nil _ _ _ _ _, set4_R (set4_R HV2.out B2.out (by decide)) (set4_far B4.out N42.out) (by decide), set4_below (set4_below HB.out G2.out) G4.out⟩)
 case true =>
  rw [if_pos rfl] at h
  by_cases cv : 4 ≤ Vs.length
  case neg => rw [if_neg cv] at h; cases h
  rw [if_pos cv] at h
  have HV4 := am cv
  have v1b : (4 : Int) ≤ (Vs.length : Int) := by omega
  have v2b : (4 : Int) ≤ (c2 : Int) := by (have := HC2.out; omega)
  have v3b : (Vs.length : Int) ≤ (c2 : Int) := by (have := HC2.out; omega)
  clear cv
  obtain ⟨k1_, q0, h⟩ := Option.bind_eq_some_iff.1 h
  have T1 := am q0
  clear q0
  obtain ⟨v1_, q1, h⟩ := Option.bind_eq_some_iff.1 h
  have T2 := am q1
  clear q1
  obtain ⟨k2_, q2, h⟩ := Option.bind_eq_some_iff.1 h
  have T3 := am q2
  clear q2
  obtain ⟨v2_, q3, h⟩ := Option.bind_eq_some_iff.1 h
  have T4 := am q3
  clear q3
  simp only [Option.some.injEq, Prod.mk.injEq] at h
  obtain ⟨rfl, rfl, rfl, rfl, rfl, rfl, rfl, rfl, rfl, rfl⟩ := h
  go_upto_region 5 with (go_at_call 32; refine (node_stands.calls k true _ _ Ks _ _ Vs _ _ Cs true _ (by repeat (first | exact (Kd.C_below HR1.out HB.out) | (with_reducible refine Kd.C_alloc ?_ _) | (with_reducible refine Kd.C_drewN ?_ _) | (with_reducible refine Kd.C_drew ?_))) HC1.out (by repeat (first | exact (Kd.C_below HR2.out HB.out) | (with_reducible refine Kd.C_alloc ?_ _) | (with_reducible refine Kd.C_drewN ?_ _) | (with_reducible refine Kd.C_drew ?_))) HC2.out (by repeat (first | exact (Kd.C_below HR3.out HB.out) | (with_reducible refine Kd.C_alloc ?_ _) | (with_reducible refine Kd.C_drewN ?_ _) | (with_reducible refine Kd.C_drew ?_))) HC3.out S1.out).mono ?_; rintro e w4 ⟨rfl, hb⟩; have XB1 := am (blk_below (o := .cells #[.bool true, .slice (some ad) Ks.length c1, .slice A2 Vs.length c2, .slice A3 Cs.length c3] 25 (0, 0)) (pk B1.out) hb); have XB2 := am (blk_below (o := .cells #[.bool false, .slice none 0 0, .slice none 0 0, .slice none 0 0] 25 (0, 0)) (pk B2.out) hb); have XB4 := am (blk_below (o := .cells #[.bool false, .slice none 0 0, .slice none 0 0, .slice none 0 0] 25 (0, 0)) (pk B4.out) hb); have XB := am (below_step (pB HB.out) hb); clear hb B1 B2 B4 HB; have B1 := XB1; have B2 := XB2; have B4 := XB4; have HB := XB; clear XB1 XB2 XB4 XB; have e0_ : w4.cell? ⟨g1, 0, none⟩ = some (.bool true) := bc B1.out; have e1_ : w4.cell? ⟨g1, 1, none⟩ = some (.slice (some ad) Ks.length c1) := bc B1.out; have e2_ : w4.cell? ⟨g1, 2, none⟩ = some (.slice A2 Vs.length c2) := bc B1.out; have e3_ : w4.cell? ⟨g1, 3, none⟩ = some (.slice A3 Cs.length c3) := bc B1.out; replace hx4 := (HB.out.cell (World.block_lt_of_cell? w _ hx4)).trans hx4; have hx5 : w4.cell? ⟨ad.block, ad.off + 4, none⟩ = some (.string (rdOf ByteArray.empty Ks 4)) := hx4)
  replace HB := am (below_drew1 HB.out)
  replace B1 := am (blk_drew B1.out)
  replace B2 := am (blk_drew B2.out)
  replace B4 := am (blk_drew B4.out)
  refine start_ (n := 13) (S := fun w' => w'.cell? ⟨g1, 1, none⟩ = some (.slice (some ad) Ks.length c1) ∧ w'.cell? ⟨g1, 2, none⟩ = some (.slice A2 Vs.length c2)) (ds := [12]) (ba 13 0) (by kernel_rfl) rfl rfl ⟨((blk_cell (B1.out) 1).trans rfl), ((blk_cell (B1.out) 2).trans rfl)⟩ (fun hHeld => ?_)
  generalize w4.drew = p5 at HB B1 B2 B4 hHeld ⊢
  refine pure_ (i := 0) (N := some 26) (v := ?_) (a' := ?_) (ba 13 1) rfl rfl (by kernel_rfl) (fun _ _ _ h => h) (Or.inl ⟨by rfl, ?_⟩) ?_ ?_
  rotate_left
  ·
   intro w'
   go_simp
   with_reducible rfl
  rotate_left
  ·
   simp only [Act.put, List.setIfInBounds_toArray, List.set_cons_zero, List.set_cons_succ, i64_w, i32_w]
   rfl
  refine pure_ (i := 5) (N := some 31) (v := ?_) (a' := ?_) (ba 13 33) rfl rfl (by kernel_rfl) (fun _ _ _ h => h) (Or.inl ⟨by rfl, ?_⟩) ?_ ?_
  rotate_left
  ·
   intro w'
   go_simp
   with_reducible rfl
  rotate_left
  ·
   simp only [Act.put, List.setIfInBounds_toArray, List.set_cons_zero, List.set_cons_succ, i64_w, i32_w]
   rfl
  refine take_ (i := 1) (N := some 27) (v := ?_) (a' := ?_) (ba 13 35) rfl rfl (by kernel_rfl) (fun _ _ _ h => h) (Or.inl ⟨by rfl, ?_⟩) hHeld ?_ ?_
  rotate_left
  ·
   rintro w' ⟨s0, s1⟩
   go_simp
   with_reducible rfl
  rotate_left
  ·
   simp only [Act.put, List.setIfInBounds_toArray, List.set_cons_zero, List.set_cons_succ, i64_w, i32_w]
   rfl
  refine pure_ (i := 2) (N := some 28) (v := ?_) (a' := ?_) (ba 13 39) rfl rfl (by kernel_rfl) (fun _ _ _ h => h) (Or.inl ⟨by rfl, ?_⟩) ?_ ?_
  rotate_left
  ·
   intro w'
   go_simp
   with_reducible rfl
  rotate_left
  ·
   simp only [Act.put, List.setIfInBounds_toArray, List.set_cons_zero, List.set_cons_succ, i64_w, i32_w]
   rfl
  refine take_ (i := 6) (N := some 32) (v := ?_) (a' := ?_) (ba 13 103) rfl rfl (by kernel_rfl) (fun _ _ _ h => h) (Or.inl ⟨by rfl, ?_⟩) hHeld ?_ ?_
  rotate_left
  ·
   rintro w' ⟨s0, s1⟩
   go_simp
   with_reducible rfl
  rotate_left
  ·
   simp only [Act.put, List.setIfInBounds_toArray, List.set_cons_zero, List.set_cons_succ, i64_w, i32_w]
   rfl
  refine pure_ (i := 7) (N := some 33) (v := ?_) (a' := ?_) (ba 13 231) rfl rfl (by kernel_rfl) (fun _ _ _ h => h) (Or.inl ⟨by rfl, ?_⟩) ?_ ?_
  rotate_left
  ·
   intro w'
   go_simp
   with_reducible rfl
  rotate_left
  ·
   simp only [Act.put, List.setIfInBounds_toArray, List.set_cons_zero, List.set_cons_succ, i64_w, i32_w]
   rfl
  refine join_ (σ := Nat × (Option Addr × Nat) × Nat × (Option Addr × Nat) × Nat) 1 (ba 13 4095) (fun s_ => [(29, .slice (some ⟨s_.1, 0, none⟩) 1 1), (30, .slice (s_.2.1).1 k1_.length (s_.2.1).2), (34, .slice (some ⟨s_.2.2.1, 0, none⟩) 1 1), (35, .slice (s_.2.2.2.1).1 v1_.length (s_.2.2.2.1).2), (7, .pointer (some ⟨s_.2.2.2.2, 0, none⟩)), (36, .agg #[.bool true, .slice (s_.2.1).1 k1_.length (s_.2.1).2, .slice (s_.2.2.2.1).1 v1_.length (s_.2.2.2.1).2, .slice none 0 0])]) (fun s_ w' => (w'.cell? ⟨g1, 1, none⟩ = some (.slice (some ad) Ks.length c1) ∧ w'.cell? ⟨g1, 2, none⟩ = some (.slice A2 Vs.length c2)) ∧ (Below w.heap.size w w') ∧ (w'.heap[g1]? = some (.cells #[.bool true, .slice (some ad) Ks.length c1, .slice A2 Vs.length c2, .slice A3 Cs.length c3] 25 (0, 0))) ∧ (w'.heap[g2]? = some (.cells #[.bool false, .slice none 0 0, .slice none 0 0, .slice none 0 0] 25 (0, 0))) ∧ (w'.heap[g4]? = some (.cells #[.bool false, .slice none 0 0, .slice none 0 0, .slice none 0 0] 25 (0, 0))) ∧ (Kd.R Kd.string 9 w' w.heap.size (fun _ => True) (.slice (s_.2.1).1 k1_.length (s_.2.1).2) k1_) ∧ (Kd.R Kd.string 9 w' w.heap.size (fun _ => True) (.slice (s_.2.2.2.1).1 v1_.length (s_.2.2.2.1).2) v1_) ∧ (w'.heap[s_.2.2.2.2]? = some (.cells #[.bool false, .slice none 0 0, .slice none 0 0, .slice none 0 0] 25 (0, 0))) ∧ (g1 ≠ s_.2.2.2.2) ∧ (g2 ≠ s_.2.2.2.2) ∧ (g4 ≠ s_.2.2.2.2) ∧ (w.heap.size ≤ s_.2.2.2.2)) ?_ ?_
  rotate_left
  ·
   intro hJ3_4_8_9_11
   refine join_ (σ := Nat × (Option Addr × Nat) × Nat × (Option Addr × Nat)) 2 (ba 13 2047) (fun s_ => [(29, .slice (some ⟨s_.1, 0, none⟩) 1 1), (30, .slice (s_.2.1).1 k1_.length (s_.2.1).2), (34, .slice (some ⟨s_.2.2.1, 0, none⟩) 1 1), (35, .slice (s_.2.2.2).1 v1_.length (s_.2.2.2).2), (36, .agg #[.bool true, .slice (s_.2.1).1 k1_.length (s_.2.1).2, .slice (s_.2.2.2).1 v1_.length (s_.2.2.2).2, .slice none 0 0])]) (fun s_ w' => (w'.cell? ⟨g1, 1, none⟩ = some (.slice (some ad) Ks.length c1) ∧ w'.cell? ⟨g1, 2, none⟩ = some (.slice A2 Vs.length c2)) ∧ (Below w.heap.size w w') ∧ (w'.heap[g1]? = some (.cells #[.bool true, .slice (some ad) Ks.length c1, .slice A2 Vs.length c2, .slice A3 Cs.length c3] 25 (0, 0))) ∧ (w'.heap[g2]? = some (.cells #[.bool false, .slice none 0 0, .slice none 0 0, .slice none 0 0] 25 (0, 0))) ∧ (w'.heap[g4]? = some (.cells #[.bool false, .slice none 0 0, .slice none 0 0, .slice none 0 0] 25 (0, 0))) ∧ (Kd.R Kd.string 9 w' w.heap.size (fun _ => True) (.slice (s_.2.1).1 k1_.length (s_.2.1).2) k1_) ∧ (Kd.R Kd.string 9 w' w.heap.size (fun _ => True) (.slice (s_.2.2.2).1 v1_.length (s_.2.2.2).2) v1_)) ?_ ?_
   rotate_left
   ·
    intro hJ3_4_8_9
    refine join_ (σ := Nat × (Option Addr × Nat) × Nat × Nat) 3 (ba 13 2559) (fun s_ => [(29, .slice (some ⟨s_.1, 0, none⟩) 1 1), (30, .slice (s_.2.1).1 k1_.length (s_.2.1).2), (34, .slice (some ⟨s_.2.2.1, 0, none⟩) 1 1), (7, .pointer (some ⟨s_.2.2.2, 0, none⟩))]) (fun s_ w' => (w'.cell? ⟨g1, 1, none⟩ = some (.slice (some ad) Ks.length c1) ∧ w'.cell? ⟨g1, 2, none⟩ = some (.slice A2 Vs.length c2)) ∧ (Below w.heap.size w w') ∧ (w'.heap[g1]? = some (.cells #[.bool true, .slice (some ad) Ks.length c1, .slice A2 Vs.length c2, .slice A3 Cs.length c3] 25 (0, 0))) ∧ (w'.heap[g2]? = some (.cells #[.bool false, .slice none 0 0, .slice none 0 0, .slice none 0 0] 25 (0, 0))) ∧ (w'.heap[g4]? = some (.cells #[.bool false, .slice none 0 0, .slice none 0 0, .slice none 0 0] 25 (0, 0))) ∧ (Kd.R Kd.string 9 w' w.heap.size (fun _ => True) (.slice (s_.2.1).1 k1_.length (s_.2.1).2) k1_) ∧ (Kd.C (Kd.slice 9 Kd.string) w' (some ⟨s_.2.2.1, 0, none⟩) 1 [Vs.take 4]) ∧ (w'.heap[s_.2.2.2]? = some (.cells #[.bool false, .slice none 0 0, .slice none 0 0, .slice none 0 0] 25 (0, 0))) ∧ (g1 ≠ s_.2.2.2) ∧ (g2 ≠ s_.2.2.2) ∧ (g4 ≠ s_.2.2.2) ∧ (w.heap.size ≤ s_.2.2.2)) ?_ ?_
    rotate_left
    ·
     intro hJ3_4_8_11
     refine join_ (σ := Nat × (Option Addr × Nat) × Nat) 4 (ba 13 511) (fun s_ => [(29, .slice (some ⟨s_.1, 0, none⟩) 1 1), (30, .slice (s_.2.1).1 k1_.length (s_.2.1).2), (34, .slice (some ⟨s_.2.2, 0, none⟩) 1 1)]) (fun s_ w' => (w'.cell? ⟨g1, 1, none⟩ = some (.slice (some ad) Ks.length c1) ∧ w'.cell? ⟨g1, 2, none⟩ = some (.slice A2 Vs.length c2)) ∧ (Below w.heap.size w w') ∧ (w'.heap[g1]? = some (.cells #[.bool true, .slice (some ad) Ks.length c1, .slice A2 Vs.length c2, .slice A3 Cs.length c3] 25 (0, 0))) ∧ (w'.heap[g2]? = some (.cells #[.bool false, .slice none 0 0, .slice none 0 0, .slice none 0 0] 25 (0, 0))) ∧ (w'.heap[g4]? = some (.cells #[.bool false, .slice none 0 0, .slice none 0 0, .slice none 0 0] 25 (0, 0))) ∧ (Kd.R Kd.string 9 w' w.heap.size (fun _ => True) (.slice (s_.2.1).1 k1_.length (s_.2.1).2) k1_) ∧ (Kd.C (Kd.slice 9 Kd.string) w' (some ⟨s_.2.2, 0, none⟩) 1 [Vs.take 4])) ?_ ?_
     rotate_left
     ·
      intro hJ3_4_8
      refine join_ (σ := Nat × (Option Addr × Nat) × Nat) 4 (ba 13 2303) (fun s_ => [(29, .slice (some ⟨s_.1, 0, none⟩) 1 1), (30, .slice (s_.2.1).1 k1_.length (s_.2.1).2), (7, .pointer (some ⟨s_.2.2, 0, none⟩))]) (fun s_ w' => (w'.cell? ⟨g1, 1, none⟩ = some (.slice (some ad) Ks.length c1) ∧ w'.cell? ⟨g1, 2, none⟩ = some (.slice A2 Vs.length c2)) ∧ (Below w.heap.size w w') ∧ (w'.heap[g1]? = some (.cells #[.bool true, .slice (some ad) Ks.length c1, .slice A2 Vs.length c2, .slice A3 Cs.length c3] 25 (0, 0))) ∧ (w'.heap[g2]? = some (.cells #[.bool false, .slice none 0 0, .slice none 0 0, .slice none 0 0] 25 (0, 0))) ∧ (w'.heap[g4]? = some (.cells #[.bool false, .slice none 0 0, .slice none 0 0, .slice none 0 0] 25 (0, 0))) ∧ (Kd.R Kd.string 9 w' w.heap.size (fun _ => True) (.slice (s_.2.1).1 k1_.length (s_.2.1).2) k1_) ∧ (w'.heap[s_.2.2]? = some (.cells #[.bool false, .slice none 0 0, .slice none 0 0, .slice none 0 0] 25 (0, 0))) ∧ (g1 ≠ s_.2.2) ∧ (g2 ≠ s_.2.2) ∧ (g4 ≠ s_.2.2) ∧ (w.heap.size ≤ s_.2.2)) ?_ ?_
      rotate_left
      ·
       intro hJ3_4_11
       refine join_ (σ := Nat × Nat × Nat) 4 (ba 13 2543) (fun s_ => [(29, .slice (some ⟨s_.1, 0, none⟩) 1 1), (34, .slice (some ⟨s_.2.1, 0, none⟩) 1 1), (7, .pointer (some ⟨s_.2.2, 0, none⟩))]) (fun s_ w' => (w'.cell? ⟨g1, 1, none⟩ = some (.slice (some ad) Ks.length c1) ∧ w'.cell? ⟨g1, 2, none⟩ = some (.slice A2 Vs.length c2)) ∧ (Below w.heap.size w w') ∧ (w'.heap[g1]? = some (.cells #[.bool true, .slice (some ad) Ks.length c1, .slice A2 Vs.length c2, .slice A3 Cs.length c3] 25 (0, 0))) ∧ (w'.heap[g2]? = some (.cells #[.bool false, .slice none 0 0, .slice none 0 0, .slice none 0 0] 25 (0, 0))) ∧ (w'.heap[g4]? = some (.cells #[.bool false, .slice none 0 0, .slice none 0 0, .slice none 0 0] 25 (0, 0))) ∧ (Kd.C (Kd.slice 9 Kd.string) w' (some ⟨s_.1, 0, none⟩) 1 [Ks.take 4]) ∧ (Kd.C (Kd.slice 9 Kd.string) w' (some ⟨s_.2.1, 0, none⟩) 1 [Vs.take 4]) ∧ (w'.heap[s_.2.2]? = some (.cells #[.bool false, .slice none 0 0, .slice none 0 0, .slice none 0 0] 25 (0, 0))) ∧ (g1 ≠ s_.2.2) ∧ (g2 ≠ s_.2.2) ∧ (g4 ≠ s_.2.2) ∧ (w.heap.size ≤ s_.2.2)) ?_ ?_
       rotate_left
       ·
        intro hJ3_8_11
        refine join_ (σ := Nat × (Option Addr × Nat)) 5 (ba 13 255) (fun s_ => [(29, .slice (some ⟨s_.1, 0, none⟩) 1 1), (30, .slice (s_.2).1 k1_.length (s_.2).2)]) (fun s_ w' => (w'.cell? ⟨g1, 1, none⟩ = some (.slice (some ad) Ks.length c1) ∧ w'.cell? ⟨g1, 2, none⟩ = some (.slice A2 Vs.length c2)) ∧ (Below w.heap.size w w') ∧ (w'.heap[g1]? = some (.cells #[.bool true, .slice (some ad) Ks.length c1, .slice A2 Vs.length c2, .slice A3 Cs.length c3] 25 (0, 0))) ∧ (w'.heap[g2]? = some (.cells #[.bool false, .slice none 0 0, .slice none 0 0, .slice none 0 0] 25 (0, 0))) ∧ (w'.heap[g4]? = some (.cells #[.bool false, .slice none 0 0, .slice none 0 0, .slice none 0 0] 25 (0, 0))) ∧ (Kd.R Kd.string 9 w' w.heap.size (fun _ => True) (.slice (s_.2).1 k1_.length (s_.2).2) k1_)) ?_ ?_
        rotate_left
        ·
         intro hJ3_4
         refine join_ (σ := Nat × Nat) 5 (ba 13 495) (fun s_ => [(29, .slice (some ⟨s_.1, 0, none⟩) 1 1), (34, .slice (some ⟨s_.2, 0, none⟩) 1 1)]) (fun s_ w' => (w'.cell? ⟨g1, 1, none⟩ = some (.slice (some ad) Ks.length c1) ∧ w'.cell? ⟨g1, 2, none⟩ = some (.slice A2 Vs.length c2)) ∧ (Below w.heap.size w w') ∧ (w'.heap[g1]? = some (.cells #[.bool true, .slice (some ad) Ks.length c1, .slice A2 Vs.length c2, .slice A3 Cs.length c3] 25 (0, 0))) ∧ (w'.heap[g2]? = some (.cells #[.bool false, .slice none 0 0, .slice none 0 0, .slice none 0 0] 25 (0, 0))) ∧ (w'.heap[g4]? = some (.cells #[.bool false, .slice none 0 0, .slice none 0 0, .slice none 0 0] 25 (0, 0))) ∧ (Kd.C (Kd.slice 9 Kd.string) w' (some ⟨s_.1, 0, none⟩) 1 [Ks.take 4]) ∧ (Kd.C (Kd.slice 9 Kd.string) w' (some ⟨s_.2, 0, none⟩) 1 [Vs.take 4])) ?_ ?_
         rotate_left
         ·
          intro hJ3_8
          refine join_ (σ := Nat × Nat) 5 (ba 13 2287) (fun s_ => [(29, .slice (some ⟨s_.1, 0, none⟩) 1 1), (7, .pointer (some ⟨s_.2, 0, none⟩))]) (fun s_ w' => (w'.cell? ⟨g1, 1, none⟩ = some (.slice (some ad) Ks.length c1) ∧ w'.cell? ⟨g1, 2, none⟩ = some (.slice A2 Vs.length c2)) ∧ (Below w.heap.size w w') ∧ (w'.heap[g1]? = some (.cells #[.bool true, .slice (some ad) Ks.length c1, .slice A2 Vs.length c2, .slice A3 Cs.length c3] 25 (0, 0))) ∧ (w'.heap[g2]? = some (.cells #[.bool false, .slice none 0 0, .slice none 0 0, .slice none 0 0] 25 (0, 0))) ∧ (w'.heap[g4]? = some (.cells #[.bool false, .slice none 0 0, .slice none 0 0, .slice none 0 0] 25 (0, 0))) ∧ (Kd.C (Kd.slice 9 Kd.string) w' (some ⟨s_.1, 0, none⟩) 1 [Ks.take 4]) ∧ (w'.heap[s_.2]? = some (.cells #[.bool false, .slice none 0 0, .slice none 0 0, .slice none 0 0] 25 (0, 0))) ∧ (g1 ≠ s_.2) ∧ (g2 ≠ s_.2) ∧ (g4 ≠ s_.2) ∧ (w.heap.size ≤ s_.2)) ?_ ?_
          rotate_left
          ·
           intro hJ3_11
           refine join_ (σ := Nat × Nat) 5 (ba 13 2535) (fun s_ => [(34, .slice (some ⟨s_.1, 0, none⟩) 1 1), (7, .pointer (some ⟨s_.2, 0, none⟩))]) (fun s_ w' => (w'.cell? ⟨g1, 1, none⟩ = some (.slice (some ad) Ks.length c1) ∧ w'.cell? ⟨g1, 2, none⟩ = some (.slice A2 Vs.length c2)) ∧ (Below w.heap.size w w') ∧ (w'.heap[g1]? = some (.cells #[.bool true, .slice (some ad) Ks.length c1, .slice A2 Vs.length c2, .slice A3 Cs.length c3] 25 (0, 0))) ∧ (w'.heap[g2]? = some (.cells #[.bool false, .slice none 0 0, .slice none 0 0, .slice none 0 0] 25 (0, 0))) ∧ (w'.heap[g4]? = some (.cells #[.bool false, .slice none 0 0, .slice none 0 0, .slice none 0 0] 25 (0, 0))) ∧ (Kd.C (Kd.slice 9 Kd.string) w' (some ⟨s_.1, 0, none⟩) 1 [Vs.take 4]) ∧ (w'.heap[s_.2]? = some (.cells #[.bool false, .slice none 0 0, .slice none 0 0, .slice none 0 0] 25 (0, 0))) ∧ (g1 ≠ s_.2) ∧ (g2 ≠ s_.2) ∧ (g4 ≠ s_.2) ∧ (w.heap.size ≤ s_.2)) ?_ ?_
           rotate_left
           ·
            intro hJ8_11
            refine join_ (σ := Nat) 6 (ba 13 239) (fun s_ => [(29, .slice (some ⟨s_, 0, none⟩) 1 1)]) (fun s_ w' => (w'.cell? ⟨g1, 1, none⟩ = some (.slice (some ad) Ks.length c1) ∧ w'.cell? ⟨g1, 2, none⟩ = some (.slice A2 Vs.length c2)) ∧ (Below w.heap.size w w') ∧ (w'.heap[g1]? = some (.cells #[.bool true, .slice (some ad) Ks.length c1, .slice A2 Vs.length c2, .slice A3 Cs.length c3] 25 (0, 0))) ∧ (w'.heap[g2]? = some (.cells #[.bool false, .slice none 0 0, .slice none 0 0, .slice none 0 0] 25 (0, 0))) ∧ (w'.heap[g4]? = some (.cells #[.bool false, .slice none 0 0, .slice none 0 0, .slice none 0 0] 25 (0, 0))) ∧ (Kd.C (Kd.slice 9 Kd.string) w' (some ⟨s_, 0, none⟩) 1 [Ks.take 4])) ?_ ?_
            rotate_left
            ·
             intro hJ3
             refine join_ (σ := Nat) 6 (ba 13 487) (fun s_ => [(34, .slice (some ⟨s_, 0, none⟩) 1 1)]) (fun s_ w' => (w'.cell? ⟨g1, 1, none⟩ = some (.slice (some ad) Ks.length c1) ∧ w'.cell? ⟨g1, 2, none⟩ = some (.slice A2 Vs.length c2)) ∧ (Below w.heap.size w w') ∧ (w'.heap[g1]? = some (.cells #[.bool true, .slice (some ad) Ks.length c1, .slice A2 Vs.length c2, .slice A3 Cs.length c3] 25 (0, 0))) ∧ (w'.heap[g2]? = some (.cells #[.bool false, .slice none 0 0, .slice none 0 0, .slice none 0 0] 25 (0, 0))) ∧ (w'.heap[g4]? = some (.cells #[.bool false, .slice none 0 0, .slice none 0 0, .slice none 0 0] 25 (0, 0))) ∧ (Kd.C (Kd.slice 9 Kd.string) w' (some ⟨s_, 0, none⟩) 1 [Vs.take 4])) ?_ ?_
             rotate_left
             ·
              intro hJ8
              refine join_ (σ := Nat) 6 (ba 13 2279) (fun s_ => [(7, .pointer (some ⟨s_, 0, none⟩))]) (fun s_ w' => (w'.cell? ⟨g1, 1, none⟩ = some (.slice (some ad) Ks.length c1) ∧ w'.cell? ⟨g1, 2, none⟩ = some (.slice A2 Vs.length c2)) ∧ (Below w.heap.size w w') ∧ (w'.heap[g1]? = some (.cells #[.bool true, .slice (some ad) Ks.length c1, .slice A2 Vs.length c2, .slice A3 Cs.length c3] 25 (0, 0))) ∧ (w'.heap[g2]? = some (.cells #[.bool false, .slice none 0 0, .slice none 0 0, .slice none 0 0] 25 (0, 0))) ∧ (w'.heap[g4]? = some (.cells #[.bool false, .slice none 0 0, .slice none 0 0, .slice none 0 0] 25 (0, 0))) ∧ (w'.heap[s_]? = some (.cells #[.bool false, .slice none 0 0, .slice none 0 0, .slice none 0 0] 25 (0, 0))) ∧ (g1 ≠ s_) ∧ (g2 ≠ s_) ∧ (g4 ≠ s_) ∧ (w.heap.size ≤ s_)) ?_ ?_
              rotate_left
              ·
               intro hJ11
               refine three_ (i := 3) (j := 8) (k := 11) (Ni := some 29) (Nj := some 34) (Nk := some 7) (ba 13 239) (ba 13 487) (ba 13 2279) rfl rfl rfl rfl rfl rfl (by kernel_rfl) (by decide) (by decide) (by decide) (fun K hK => ?_) (fun K hK => ?_) (fun K hK => ?_)
               ·
                skip
                refine value_ (w1 := ?_) (v := ?_) (by rfl) rfl ?_ ?_
                rotate_left 2
                ·
                 go_simp
                 constructor
                 ·
                  rfl
                 ·
                  rfl
                refine hK.out _ _ ⟨((blk_cell (blk_alloc B1.out _) 1).trans rfl), ((blk_cell (blk_alloc B1.out _) 2).trans rfl)⟩ (fun hHeld => ?_)
                clear hK K
                refine norm_ (a' := ?_) ?_ ?_
                rotate_left
                ·
                 show Act.put _ (some 29) _ = _
                 simp only [Act.put, List.setIfInBounds_toArray, List.set_cons_zero, List.set_cons_succ, i64_w, i32_w]
                 rfl
                exact norm_ (by first | (simp only [putAll, Act.put, List.setIfInBounds_toArray, List.set_cons_zero, List.set_cons_succ]; done) | (simp only [putAll, Act.put, List.setIfInBounds_toArray, List.set_cons_zero, List.set_cons_succ]; rfl)) (hJ3 (p5.heap.size) _ ⟨hHeld, below_alloc HB.out _, blk_alloc B1.out _, blk_alloc B2.out _, blk_alloc B4.out _, C_new_ss p5 (by rw [List.length_take]; have := HL9.out; omega) (Nat.le_trans (by decide) HC4.out) (Kd.C_take (Kd.C_below HR1.out HB.out) HL4.out)⟩)
               ·
                skip
                refine value_ (w1 := ?_) (v := ?_) (by rfl) rfl ?_ ?_
                rotate_left 2
                ·
                 go_simp
                 constructor
                 ·
                  rfl
                 ·
                  rfl
                refine hK.out _ _ ⟨((blk_cell (blk_alloc B1.out _) 1).trans rfl), ((blk_cell (blk_alloc B1.out _) 2).trans rfl)⟩ (fun hHeld => ?_)
                clear hK K
                refine norm_ (a' := ?_) ?_ ?_
                rotate_left
                ·
                 show Act.put _ (some 34) _ = _
                 simp only [Act.put, List.setIfInBounds_toArray, List.set_cons_zero, List.set_cons_succ, i64_w, i32_w]
                 rfl
                exact norm_ (by first | (simp only [putAll, Act.put, List.setIfInBounds_toArray, List.set_cons_zero, List.set_cons_succ]; done) | (simp only [putAll, Act.put, List.setIfInBounds_toArray, List.set_cons_zero, List.set_cons_succ]; rfl)) (hJ8 (p5.heap.size) _ ⟨hHeld, below_alloc HB.out _, blk_alloc B1.out _, blk_alloc B2.out _, blk_alloc B4.out _, C_new_ss p5 (by rw [List.length_take]; have := HV4.out; omega) (Nat.le_trans HV4.out HC2.out) (Kd.C_take (Kd.C_below HR2.out HB.out) HV4.out)⟩)
               ·
                skip
                refine value_ (w1 := ?_) (v := ?_) (by rfl) rfl ?_ ?_
                rotate_left 2
                ·
                 go_simp
                 constructor
                 ·
                  rfl
                 ·
                  rfl
                refine hK.out _ _ ⟨((blk_cell (blk_alloc B1.out _) 1).trans rfl), ((blk_cell (blk_alloc B1.out _) 2).trans rfl)⟩ (fun hHeld => ?_)
                clear hK K
                refine norm_ (a' := ?_) ?_ ?_
                rotate_left
                ·
                 show Act.put _ (some 7) _ = _
                 simp only [Act.put, List.setIfInBounds_toArray, List.set_cons_zero, List.set_cons_succ, i64_w, i32_w]
                 rfl
                exact norm_ (by first | (simp only [putAll, Act.put, List.setIfInBounds_toArray, List.set_cons_zero, List.set_cons_succ]; done) | (simp only [putAll, Act.put, List.setIfInBounds_toArray, List.set_cons_zero, List.set_cons_succ]; rfl)) (hJ11 (p5.heap.size) _ ⟨hHeld, below_alloc HB.out _, blk_alloc B1.out _, blk_alloc B2.out _, blk_alloc B4.out _, blk_new p5 _, Nat.ne_of_lt (blk_lt B1.out), Nat.ne_of_lt (blk_lt B2.out), Nat.ne_of_lt (blk_lt B4.out), below_size HB.out⟩)
              ·
               skip
               rintro g7 p5_11 ⟨hS_, h0_, h1_, h2_, h3_, h4_, h5_, h6_, h7_, h8_⟩
               have HB : Aside0 (Below w.heap.size w p5_11) := ⟨h0_⟩
               have B1 : Aside0 (p5_11.heap[g1]? = some (.cells #[.bool true, .slice (some ad) Ks.length c1, .slice A2 Vs.length c2, .slice A3 Cs.length c3] 25 (0, 0))) := ⟨h1_⟩
               have B2 : Aside0 (p5_11.heap[g2]? = some (.cells #[.bool false, .slice none 0 0, .slice none 0 0, .slice none 0 0] 25 (0, 0))) := ⟨h2_⟩
               have B4 : Aside0 (p5_11.heap[g4]? = some (.cells #[.bool false, .slice none 0 0, .slice none 0 0, .slice none 0 0] 25 (0, 0))) := ⟨h3_⟩
               have B7 : Aside0 (p5_11.heap[g7]? = some (.cells #[.bool false, .slice none 0 0, .slice none 0 0, .slice none 0 0] 25 (0, 0))) := ⟨h4_⟩
               have NE1 : Aside0 (g1 ≠ g7) := ⟨h5_⟩
               have NE2 : Aside0 (g2 ≠ g7) := ⟨h6_⟩
               have NE4 : Aside0 (g4 ≠ g7) := ⟨h7_⟩
               have G7 : Aside0 (w.heap.size ≤ g7) := ⟨h8_⟩
               have hHeld : p5_11.cell? ⟨g1, 1, none⟩ = some (.slice (some ad) Ks.length c1) ∧ p5_11.cell? ⟨g1, 2, none⟩ = some (.slice A2 Vs.length c2) := hS_
               refine norm_ (a' := ?_) ?_ ?_
               rotate_left
               ·
                simp only [putAll, Act.put, List.setIfInBounds_toArray, List.set_cons_zero, List.set_cons_succ]
                rfl
               refine two_ (i := 3) (j := 8) (Ni := some 29) (Nj := some 34) (ba 13 2287) (ba 13 2535) rfl rfl rfl rfl (by kernel_rfl) (by decide) (by decide) (fun K hK => ?_) (fun K hK => ?_)
               ·
                skip
                refine value_ (w1 := ?_) (v := ?_) (by rfl) rfl ?_ ?_
                rotate_left 2
                ·
                 go_simp
                 constructor
                 ·
                  rfl
                 ·
                  rfl
                refine hK.out _ _ ⟨((blk_cell (blk_alloc B1.out _) 1).trans rfl), ((blk_cell (blk_alloc B1.out _) 2).trans rfl)⟩ (fun hHeld => ?_)
                clear hK K
                refine norm_ (a' := ?_) ?_ ?_
                rotate_left
                ·
                 show Act.put _ (some 29) _ = _
                 simp only [Act.put, List.setIfInBounds_toArray, List.set_cons_zero, List.set_cons_succ, i64_w, i32_w]
                 rfl
                exact norm_ (by first | (simp only [putAll, Act.put, List.setIfInBounds_toArray, List.set_cons_zero, List.set_cons_succ]; done) | (simp only [putAll, Act.put, List.setIfInBounds_toArray, List.set_cons_zero, List.set_cons_succ]; rfl)) (hJ3_11 (p5_11.heap.size, g7) _ ⟨hHeld, below_alloc HB.out _, blk_alloc B1.out _, blk_alloc B2.out _, blk_alloc B4.out _, C_new_ss p5_11 (by rw [List.length_take]; have := HL9.out; omega) (Nat.le_trans (by decide) HC4.out) (Kd.C_take (Kd.C_below HR1.out HB.out) HL4.out), blk_alloc B7.out _, NE1.out, NE2.out, NE4.out, G7.out⟩)
               ·
                skip
                refine value_ (w1 := ?_) (v := ?_) (by rfl) rfl ?_ ?_
                rotate_left 2
                ·
                 go_simp
                 constructor
                 ·
                  rfl
                 ·
                  rfl
                refine hK.out _ _ ⟨((blk_cell (blk_alloc B1.out _) 1).trans rfl), ((blk_cell (blk_alloc B1.out _) 2).trans rfl)⟩ (fun hHeld => ?_)
                clear hK K
                refine norm_ (a' := ?_) ?_ ?_
                rotate_left
                ·
                 show Act.put _ (some 34) _ = _
                 simp only [Act.put, List.setIfInBounds_toArray, List.set_cons_zero, List.set_cons_succ, i64_w, i32_w]
                 rfl
                exact norm_ (by first | (simp only [putAll, Act.put, List.setIfInBounds_toArray, List.set_cons_zero, List.set_cons_succ]; done) | (simp only [putAll, Act.put, List.setIfInBounds_toArray, List.set_cons_zero, List.set_cons_succ]; rfl)) (hJ8_11 (p5_11.heap.size, g7) _ ⟨hHeld, below_alloc HB.out _, blk_alloc B1.out _, blk_alloc B2.out _, blk_alloc B4.out _, C_new_ss p5_11 (by rw [List.length_take]; have := HV4.out; omega) (Nat.le_trans HV4.out HC2.out) (Kd.C_take (Kd.C_below HR2.out HB.out) HV4.out), blk_alloc B7.out _, NE1.out, NE2.out, NE4.out, G7.out⟩)
             ·
              skip
              rintro gb p5_8 ⟨hS_, h0_, h1_, h2_, h3_, h4_⟩
              have HB : Aside0 (Below w.heap.size w p5_8) := ⟨h0_⟩
              have B1 : Aside0 (p5_8.heap[g1]? = some (.cells #[.bool true, .slice (some ad) Ks.length c1, .slice A2 Vs.length c2, .slice A3 Cs.length c3] 25 (0, 0))) := ⟨h1_⟩
              have B2 : Aside0 (p5_8.heap[g2]? = some (.cells #[.bool false, .slice none 0 0, .slice none 0 0, .slice none 0 0] 25 (0, 0))) := ⟨h2_⟩
              have B4 : Aside0 (p5_8.heap[g4]? = some (.cells #[.bool false, .slice none 0 0, .slice none 0 0, .slice none 0 0] 25 (0, 0))) := ⟨h3_⟩
              have BB : Aside0 (Kd.C (Kd.slice 9 Kd.string) p5_8 (some ⟨gb, 0, none⟩) 1 [Vs.take 4]) := ⟨h4_⟩
              have hHeld : p5_8.cell? ⟨g1, 1, none⟩ = some (.slice (some ad) Ks.length c1) ∧ p5_8.cell? ⟨g1, 2, none⟩ = some (.slice A2 Vs.length c2) := hS_
              refine norm_ (a' := ?_) ?_ ?_
              rotate_left
              ·
               simp only [putAll, Act.put, List.setIfInBounds_toArray, List.set_cons_zero, List.set_cons_succ]
               rfl
              refine two_ (i := 3) (j := 11) (Ni := some 29) (Nj := some 7) (ba 13 495) (ba 13 2535) rfl rfl rfl rfl (by kernel_rfl) (by decide) (by decide) (fun K hK => ?_) (fun K hK => ?_)
              ·
               skip
               refine value_ (w1 := ?_) (v := ?_) (by rfl) rfl ?_ ?_
               rotate_left 2
               ·
                go_simp
                constructor
                ·
                 rfl
                ·
                 rfl
               refine hK.out _ _ ⟨((blk_cell (blk_alloc B1.out _) 1).trans rfl), ((blk_cell (blk_alloc B1.out _) 2).trans rfl)⟩ (fun hHeld => ?_)
               clear hK K
               refine norm_ (a' := ?_) ?_ ?_
               rotate_left
               ·
                show Act.put _ (some 29) _ = _
                simp only [Act.put, List.setIfInBounds_toArray, List.set_cons_zero, List.set_cons_succ, i64_w, i32_w]
                rfl
               exact norm_ (by first | (simp only [putAll, Act.put, List.setIfInBounds_toArray, List.set_cons_zero, List.set_cons_succ]; done) | (simp only [putAll, Act.put, List.setIfInBounds_toArray, List.set_cons_zero, List.set_cons_succ]; rfl)) (hJ3_8 (p5_8.heap.size, gb) _ ⟨hHeld, below_alloc HB.out _, blk_alloc B1.out _, blk_alloc B2.out _, blk_alloc B4.out _, C_new_ss p5_8 (by rw [List.length_take]; have := HL9.out; omega) (Nat.le_trans (by decide) HC4.out) (Kd.C_take (Kd.C_below HR1.out HB.out) HL4.out), Kd.C_alloc BB.out _⟩)
              ·
               skip
               refine value_ (w1 := ?_) (v := ?_) (by rfl) rfl ?_ ?_
               rotate_left 2
               ·
                go_simp
                constructor
                ·
                 rfl
                ·
                 rfl
               refine hK.out _ _ ⟨((blk_cell (blk_alloc B1.out _) 1).trans rfl), ((blk_cell (blk_alloc B1.out _) 2).trans rfl)⟩ (fun hHeld => ?_)
               clear hK K
               refine norm_ (a' := ?_) ?_ ?_
               rotate_left
               ·
                show Act.put _ (some 7) _ = _
                simp only [Act.put, List.setIfInBounds_toArray, List.set_cons_zero, List.set_cons_succ, i64_w, i32_w]
                rfl
               exact norm_ (by first | (simp only [putAll, Act.put, List.setIfInBounds_toArray, List.set_cons_zero, List.set_cons_succ]; done) | (simp only [putAll, Act.put, List.setIfInBounds_toArray, List.set_cons_zero, List.set_cons_succ]; rfl)) (hJ8_11 (gb, p5_8.heap.size) _ ⟨hHeld, below_alloc HB.out _, blk_alloc B1.out _, blk_alloc B2.out _, blk_alloc B4.out _, Kd.C_alloc BB.out _, blk_new p5_8 _, Nat.ne_of_lt (blk_lt B1.out), Nat.ne_of_lt (blk_lt B2.out), Nat.ne_of_lt (blk_lt B4.out), below_size HB.out⟩)
            ·
             skip
             rintro ga p5_3 ⟨hS_, h0_, h1_, h2_, h3_, h4_⟩
             have HB : Aside0 (Below w.heap.size w p5_3) := ⟨h0_⟩
             have B1 : Aside0 (p5_3.heap[g1]? = some (.cells #[.bool true, .slice (some ad) Ks.length c1, .slice A2 Vs.length c2, .slice A3 Cs.length c3] 25 (0, 0))) := ⟨h1_⟩
             have B2 : Aside0 (p5_3.heap[g2]? = some (.cells #[.bool false, .slice none 0 0, .slice none 0 0, .slice none 0 0] 25 (0, 0))) := ⟨h2_⟩
             have B4 : Aside0 (p5_3.heap[g4]? = some (.cells #[.bool false, .slice none 0 0, .slice none 0 0, .slice none 0 0] 25 (0, 0))) := ⟨h3_⟩
             have BA : Aside0 (Kd.C (Kd.slice 9 Kd.string) p5_3 (some ⟨ga, 0, none⟩) 1 [Ks.take 4]) := ⟨h4_⟩
             have hHeld : p5_3.cell? ⟨g1, 1, none⟩ = some (.slice (some ad) Ks.length c1) ∧ p5_3.cell? ⟨g1, 2, none⟩ = some (.slice A2 Vs.length c2) := hS_
             refine norm_ (a' := ?_) ?_ ?_
             rotate_left
             ·
              simp only [putAll, Act.put, List.setIfInBounds_toArray, List.set_cons_zero, List.set_cons_succ]
              rfl
             refine three_ (i := 4) (j := 8) (k := 11) (Ni := some 30) (Nj := some 34) (Nk := some 7) (ba 13 255) (ba 13 495) (ba 13 2287) rfl rfl rfl rfl rfl rfl (by kernel_rfl) (by decide) (by decide) (by decide) (fun K hK => ?_) (fun K hK => ?_) (fun K hK => ?_)
             ·
              skip
              refine goes_ Try.func36 (by kernel_rfl) rfl #[.slice (some ⟨ga, 0, none⟩) ([Ks.take 4] : List _).length 1] (by rfl) rfl rfl (by simp only [List.map_toArray, List.map_cons, List.map_nil]; rfl) ?_
              with_reducible refine (node_rows_string.calls k _ 1 [Ks.take 4] k1_ _ BA.out (Nat.le_refl _) T1.out).mono ?_
              rintro e wc_ ⟨vk, rfl, ho_, hb⟩
              refine ⟨_, rfl, ?_⟩
              obtain ⟨Avk, cvk, e_⟩ := Kd.R_slice ho_
              subst e_
              have HK := am (Kd.R_lower ho_ (below_size HB.out))
              have B1 := am (blk_below B1.out hb)
              have B2 := am (blk_below B2.out hb)
              have B4 := am (blk_below B4.out hb)
              have HB := am (below_step HB.out hb)
              clear ho_ hb
              refine hK.out _ _ ⟨((blk_cell (B1.out) 1).trans rfl), ((blk_cell (B1.out) 2).trans rfl)⟩ (fun hHeld => ?_)
              clear hK K
              refine norm_ (a' := ?_) ?_ ?_
              rotate_left
              ·
               show Act.put _ (some 30) _ = _
               simp only [Act.put, List.setIfInBounds_toArray, List.set_cons_zero, List.set_cons_succ, i64_w, i32_w]
               rfl
              exact norm_ (by first | (simp only [putAll, Act.put, List.setIfInBounds_toArray, List.set_cons_zero, List.set_cons_succ]; done) | (simp only [putAll, Act.put, List.setIfInBounds_toArray, List.set_cons_zero, List.set_cons_succ]; rfl)) (hJ3_4 (ga, (Avk, cvk)) _ ⟨hHeld, HB.out, B1.out, B2.out, B4.out, HK.out⟩)
             ·
              skip
              refine value_ (w1 := ?_) (v := ?_) (by rfl) rfl ?_ ?_
              rotate_left 2
              ·
               go_simp
               constructor
               ·
                rfl
               ·
                rfl
              refine hK.out _ _ ⟨((blk_cell (blk_alloc B1.out _) 1).trans rfl), ((blk_cell (blk_alloc B1.out _) 2).trans rfl)⟩ (fun hHeld => ?_)
              clear hK K
              refine norm_ (a' := ?_) ?_ ?_
              rotate_left
              ·
               show Act.put _ (some 34) _ = _
               simp only [Act.put, List.setIfInBounds_toArray, List.set_cons_zero, List.set_cons_succ, i64_w, i32_w]
               rfl
              exact norm_ (by first | (simp only [putAll, Act.put, List.setIfInBounds_toArray, List.set_cons_zero, List.set_cons_succ]; done) | (simp only [putAll, Act.put, List.setIfInBounds_toArray, List.set_cons_zero, List.set_cons_succ]; rfl)) (hJ3_8 (ga, p5_3.heap.size) _ ⟨hHeld, below_alloc HB.out _, blk_alloc B1.out _, blk_alloc B2.out _, blk_alloc B4.out _, Kd.C_alloc BA.out _, C_new_ss p5_3 (by rw [List.length_take]; have := HV4.out; omega) (Nat.le_trans HV4.out HC2.out) (Kd.C_take (Kd.C_below HR2.out HB.out) HV4.out)⟩)
             ·
              skip
              refine value_ (w1 := ?_) (v := ?_) (by rfl) rfl ?_ ?_
              rotate_left 2
              ·
               go_simp
               constructor
               ·
                rfl
               ·
                rfl
              refine hK.out _ _ ⟨((blk_cell (blk_alloc B1.out _) 1).trans rfl), ((blk_cell (blk_alloc B1.out _) 2).trans rfl)⟩ (fun hHeld => ?_)
              clear hK K
              refine norm_ (a' := ?_) ?_ ?_
              rotate_left
              ·
               show Act.put _ (some 7) _ = _
               simp only [Act.put, List.setIfInBounds_toArray, List.set_cons_zero, List.set_cons_succ, i64_w, i32_w]
               rfl
              exact norm_ (by first | (simp only [putAll, Act.put, List.setIfInBounds_toArray, List.set_cons_zero, List.set_cons_succ]; done) | (simp only [putAll, Act.put, List.setIfInBounds_toArray, List.set_cons_zero, List.set_cons_succ]; rfl)) (hJ3_11 (ga, p5_3.heap.size) _ ⟨hHeld, below_alloc HB.out _, blk_alloc B1.out _, blk_alloc B2.out _, blk_alloc B4.out _, Kd.C_alloc BA.out _, blk_new p5_3 _, Nat.ne_of_lt (blk_lt B1.out), Nat.ne_of_lt (blk_lt B2.out), Nat.ne_of_lt (blk_lt B4.out), below_size HB.out⟩)
           ·
            skip
            rintro ⟨gb, g7⟩ p5_8_11 ⟨hS_, h0_, h1_, h2_, h3_, h4_, h5_, h6_, h7_, h8_, h9_⟩
            have HB : Aside0 (Below w.heap.size w p5_8_11) := ⟨h0_⟩
            have B1 : Aside0 (p5_8_11.heap[g1]? = some (.cells #[.bool true, .slice (some ad) Ks.length c1, .slice A2 Vs.length c2, .slice A3 Cs.length c3] 25 (0, 0))) := ⟨h1_⟩
            have B2 : Aside0 (p5_8_11.heap[g2]? = some (.cells #[.bool false, .slice none 0 0, .slice none 0 0, .slice none 0 0] 25 (0, 0))) := ⟨h2_⟩
            have B4 : Aside0 (p5_8_11.heap[g4]? = some (.cells #[.bool false, .slice none 0 0, .slice none 0 0, .slice none 0 0] 25 (0, 0))) := ⟨h3_⟩
            have BB : Aside0 (Kd.C (Kd.slice 9 Kd.string) p5_8_11 (some ⟨gb, 0, none⟩) 1 [Vs.take 4]) := ⟨h4_⟩
            have B7 : Aside0 (p5_8_11.heap[g7]? = some (.cells #[.bool false, .slice none 0 0, .slice none 0 0, .slice none 0 0] 25 (0, 0))) := ⟨h5_⟩
            have NE1 : Aside0 (g1 ≠ g7) := ⟨h6_⟩
            have NE2 : Aside0 (g2 ≠ g7) := ⟨h7_⟩
            have NE4 : Aside0 (g4 ≠ g7) := ⟨h8_⟩
            have G7 : Aside0 (w.heap.size ≤ g7) := ⟨h9_⟩
            have hHeld : p5_8_11.cell? ⟨g1, 1, none⟩ = some (.slice (some ad) Ks.length c1) ∧ p5_8_11.cell? ⟨g1, 2, none⟩ = some (.slice A2 Vs.length c2) := hS_
            refine norm_ (a' := ?_) ?_ ?_
            rotate_left
            ·
             simp only [putAll, Act.put, List.setIfInBounds_toArray, List.set_cons_zero, List.set_cons_succ]
             rfl
            refine one_ (i := 3) (N := some 29) (ba 13 2543) rfl rfl (by kernel_rfl) (by decide) (fun K hK => ?_)
            refine value_ (w1 := ?_) (v := ?_) (by rfl) rfl ?_ ?_
            rotate_left 2
            ·
             go_simp
             constructor
             ·
              rfl
             ·
              rfl
            refine hK.out _ _ ⟨((blk_cell (blk_alloc B1.out _) 1).trans rfl), ((blk_cell (blk_alloc B1.out _) 2).trans rfl)⟩ (fun hHeld => ?_)
            clear hK K
            refine norm_ (a' := ?_) ?_ ?_
            rotate_left
            ·
             show Act.put _ (some 29) _ = _
             simp only [Act.put, List.setIfInBounds_toArray, List.set_cons_zero, List.set_cons_succ, i64_w, i32_w]
             rfl
            exact norm_ (by first | (simp only [putAll, Act.put, List.setIfInBounds_toArray, List.set_cons_zero, List.set_cons_succ]; done) | (simp only [putAll, Act.put, List.setIfInBounds_toArray, List.set_cons_zero, List.set_cons_succ]; rfl)) (hJ3_8_11 (p5_8_11.heap.size, gb, g7) _ ⟨hHeld, below_alloc HB.out _, blk_alloc B1.out _, blk_alloc B2.out _, blk_alloc B4.out _, C_new_ss p5_8_11 (by rw [List.length_take]; have := HL9.out; omega) (Nat.le_trans (by decide) HC4.out) (Kd.C_take (Kd.C_below HR1.out HB.out) HL4.out), Kd.C_alloc BB.out _, blk_alloc B7.out _, NE1.out, NE2.out, NE4.out, G7.out⟩)
          ·
           skip
           rintro ⟨ga, g7⟩ p5_3_11 ⟨hS_, h0_, h1_, h2_, h3_, h4_, h5_, h6_, h7_, h8_, h9_⟩
           have HB : Aside0 (Below w.heap.size w p5_3_11) := ⟨h0_⟩
           have B1 : Aside0 (p5_3_11.heap[g1]? = some (.cells #[.bool true, .slice (some ad) Ks.length c1, .slice A2 Vs.length c2, .slice A3 Cs.length c3] 25 (0, 0))) := ⟨h1_⟩
           have B2 : Aside0 (p5_3_11.heap[g2]? = some (.cells #[.bool false, .slice none 0 0, .slice none 0 0, .slice none 0 0] 25 (0, 0))) := ⟨h2_⟩
           have B4 : Aside0 (p5_3_11.heap[g4]? = some (.cells #[.bool false, .slice none 0 0, .slice none 0 0, .slice none 0 0] 25 (0, 0))) := ⟨h3_⟩
           have BA : Aside0 (Kd.C (Kd.slice 9 Kd.string) p5_3_11 (some ⟨ga, 0, none⟩) 1 [Ks.take 4]) := ⟨h4_⟩
           have B7 : Aside0 (p5_3_11.heap[g7]? = some (.cells #[.bool false, .slice none 0 0, .slice none 0 0, .slice none 0 0] 25 (0, 0))) := ⟨h5_⟩
           have NE1 : Aside0 (g1 ≠ g7) := ⟨h6_⟩
           have NE2 : Aside0 (g2 ≠ g7) := ⟨h7_⟩
           have NE4 : Aside0 (g4 ≠ g7) := ⟨h8_⟩
           have G7 : Aside0 (w.heap.size ≤ g7) := ⟨h9_⟩
           have hHeld : p5_3_11.cell? ⟨g1, 1, none⟩ = some (.slice (some ad) Ks.length c1) ∧ p5_3_11.cell? ⟨g1, 2, none⟩ = some (.slice A2 Vs.length c2) := hS_
           refine norm_ (a' := ?_) ?_ ?_
           rotate_left
           ·
            simp only [putAll, Act.put, List.setIfInBounds_toArray, List.set_cons_zero, List.set_cons_succ]
            rfl
           refine two_ (i := 4) (j := 8) (Ni := some 30) (Nj := some 34) (ba 13 2303) (ba 13 2543) rfl rfl rfl rfl (by kernel_rfl) (by decide) (by decide) (fun K hK => ?_) (fun K hK => ?_)
           ·
            skip
            refine goes_ Try.func36 (by kernel_rfl) rfl #[.slice (some ⟨ga, 0, none⟩) ([Ks.take 4] : List _).length 1] (by rfl) rfl rfl (by simp only [List.map_toArray, List.map_cons, List.map_nil]; rfl) ?_
            with_reducible refine (node_rows_string.calls k _ 1 [Ks.take 4] k1_ _ BA.out (Nat.le_refl _) T1.out).mono ?_
            rintro e wc_ ⟨vk, rfl, ho_, hb⟩
            refine ⟨_, rfl, ?_⟩
            obtain ⟨Avk, cvk, e_⟩ := Kd.R_slice ho_
            subst e_
            have HK := am (Kd.R_lower ho_ (below_size HB.out))
            have B1 := am (blk_below B1.out hb)
            have B2 := am (blk_below B2.out hb)
            have B4 := am (blk_below B4.out hb)
            have B7 := am (blk_below B7.out hb)
            have HB := am (below_step HB.out hb)
            clear ho_ hb
            refine hK.out _ _ ⟨((blk_cell (B1.out) 1).trans rfl), ((blk_cell (B1.out) 2).trans rfl)⟩ (fun hHeld => ?_)
            clear hK K
            refine norm_ (a' := ?_) ?_ ?_
            rotate_left
            ·
             show Act.put _ (some 30) _ = _
             simp only [Act.put, List.setIfInBounds_toArray, List.set_cons_zero, List.set_cons_succ, i64_w, i32_w]
             rfl
            exact norm_ (by first | (simp only [putAll, Act.put, List.setIfInBounds_toArray, List.set_cons_zero, List.set_cons_succ]; done) | (simp only [putAll, Act.put, List.setIfInBounds_toArray, List.set_cons_zero, List.set_cons_succ]; rfl)) (hJ3_4_11 (ga, (Avk, cvk), g7) _ ⟨hHeld, HB.out, B1.out, B2.out, B4.out, HK.out, B7.out, NE1.out, NE2.out, NE4.out, G7.out⟩)
           ·
            skip
            refine value_ (w1 := ?_) (v := ?_) (by rfl) rfl ?_ ?_
            rotate_left 2
            ·
             go_simp
             constructor
             ·
              rfl
             ·
              rfl
            refine hK.out _ _ ⟨((blk_cell (blk_alloc B1.out _) 1).trans rfl), ((blk_cell (blk_alloc B1.out _) 2).trans rfl)⟩ (fun hHeld => ?_)
            clear hK K
            refine norm_ (a' := ?_) ?_ ?_
            rotate_left
            ·
             show Act.put _ (some 34) _ = _
             simp only [Act.put, List.setIfInBounds_toArray, List.set_cons_zero, List.set_cons_succ, i64_w, i32_w]
             rfl
            exact norm_ (by first | (simp only [putAll, Act.put, List.setIfInBounds_toArray, List.set_cons_zero, List.set_cons_succ]; done) | (simp only [putAll, Act.put, List.setIfInBounds_toArray, List.set_cons_zero, List.set_cons_succ]; rfl)) (hJ3_8_11 (ga, p5_3_11.heap.size, g7) _ ⟨hHeld, below_alloc HB.out _, blk_alloc B1.out _, blk_alloc B2.out _, blk_alloc B4.out _, Kd.C_alloc BA.out _, C_new_ss p5_3_11 (by rw [List.length_take]; have := HV4.out; omega) (Nat.le_trans HV4.out HC2.out) (Kd.C_take (Kd.C_below HR2.out HB.out) HV4.out), blk_alloc B7.out _, NE1.out, NE2.out, NE4.out, G7.out⟩)
         ·
          skip
          rintro ⟨ga, gb⟩ p5_3_8 ⟨hS_, h0_, h1_, h2_, h3_, h4_, h5_⟩
          have HB : Aside0 (Below w.heap.size w p5_3_8) := ⟨h0_⟩
          have B1 : Aside0 (p5_3_8.heap[g1]? = some (.cells #[.bool true, .slice (some ad) Ks.length c1, .slice A2 Vs.length c2, .slice A3 Cs.length c3] 25 (0, 0))) := ⟨h1_⟩
          have B2 : Aside0 (p5_3_8.heap[g2]? = some (.cells #[.bool false, .slice none 0 0, .slice none 0 0, .slice none 0 0] 25 (0, 0))) := ⟨h2_⟩
          have B4 : Aside0 (p5_3_8.heap[g4]? = some (.cells #[.bool false, .slice none 0 0, .slice none 0 0, .slice none 0 0] 25 (0, 0))) := ⟨h3_⟩
          have BA : Aside0 (Kd.C (Kd.slice 9 Kd.string) p5_3_8 (some ⟨ga, 0, none⟩) 1 [Ks.take 4]) := ⟨h4_⟩
          have BB : Aside0 (Kd.C (Kd.slice 9 Kd.string) p5_3_8 (some ⟨gb, 0, none⟩) 1 [Vs.take 4]) := ⟨h5_⟩
          have hHeld : p5_3_8.cell? ⟨g1, 1, none⟩ = some (.slice (some ad) Ks.length c1) ∧ p5_3_8.cell? ⟨g1, 2, none⟩ = some (.slice A2 Vs.length c2) := hS_
          refine norm_ (a' := ?_) ?_ ?_
          rotate_left
          ·
           simp only [putAll, Act.put, List.setIfInBounds_toArray, List.set_cons_zero, List.set_cons_succ]
           rfl
          refine two_ (i := 4) (j := 11) (Ni := some 30) (Nj := some 7) (ba 13 511) (ba 13 2543) rfl rfl rfl rfl (by kernel_rfl) (by decide) (by decide) (fun K hK => ?_) (fun K hK => ?_)
          ·
           skip
           refine goes_ Try.func36 (by kernel_rfl) rfl #[.slice (some ⟨ga, 0, none⟩) ([Ks.take 4] : List _).length 1] (by rfl) rfl rfl (by simp only [List.map_toArray, List.map_cons, List.map_nil]; rfl) ?_
           with_reducible refine (node_rows_string.calls k _ 1 [Ks.take 4] k1_ _ BA.out (Nat.le_refl _) T1.out).mono ?_
           rintro e wc_ ⟨vk, rfl, ho_, hb⟩
           refine ⟨_, rfl, ?_⟩
           obtain ⟨Avk, cvk, e_⟩ := Kd.R_slice ho_
           subst e_
           have HK := am (Kd.R_lower ho_ (below_size HB.out))
           have B1 := am (blk_below B1.out hb)
           have B2 := am (blk_below B2.out hb)
           have B4 := am (blk_below B4.out hb)
           have BB := am (Kd.C_below BB.out hb)
           have HB := am (below_step HB.out hb)
           clear ho_ hb
           refine hK.out _ _ ⟨((blk_cell (B1.out) 1).trans rfl), ((blk_cell (B1.out) 2).trans rfl)⟩ (fun hHeld => ?_)
           clear hK K
           refine norm_ (a' := ?_) ?_ ?_
           rotate_left
           ·
            show Act.put _ (some 30) _ = _
            simp only [Act.put, List.setIfInBounds_toArray, List.set_cons_zero, List.set_cons_succ, i64_w, i32_w]
            rfl
           exact norm_ (by first | (simp only [putAll, Act.put, List.setIfInBounds_toArray, List.set_cons_zero, List.set_cons_succ]; done) | (simp only [putAll, Act.put, List.setIfInBounds_toArray, List.set_cons_zero, List.set_cons_succ]; rfl)) (hJ3_4_8 (ga, (Avk, cvk), gb) _ ⟨hHeld, HB.out, B1.out, B2.out, B4.out, HK.out, BB.out⟩)
          ·
           skip
           refine value_ (w1 := ?_) (v := ?_) (by rfl) rfl ?_ ?_
           rotate_left 2
           ·
            go_simp
            constructor
            ·
             rfl
            ·
             rfl
           refine hK.out _ _ ⟨((blk_cell (blk_alloc B1.out _) 1).trans rfl), ((blk_cell (blk_alloc B1.out _) 2).trans rfl)⟩ (fun hHeld => ?_)
           clear hK K
           refine norm_ (a' := ?_) ?_ ?_
           rotate_left
           ·
            show Act.put _ (some 7) _ = _
            simp only [Act.put, List.setIfInBounds_toArray, List.set_cons_zero, List.set_cons_succ, i64_w, i32_w]
            rfl
           exact norm_ (by first | (simp only [putAll, Act.put, List.setIfInBounds_toArray, List.set_cons_zero, List.set_cons_succ]; done) | (simp only [putAll, Act.put, List.setIfInBounds_toArray, List.set_cons_zero, List.set_cons_succ]; rfl)) (hJ3_8_11 (ga, gb, p5_3_8.heap.size) _ ⟨hHeld, below_alloc HB.out _, blk_alloc B1.out _, blk_alloc B2.out _, blk_alloc B4.out _, Kd.C_alloc BA.out _, Kd.C_alloc BB.out _, blk_new p5_3_8 _, Nat.ne_of_lt (blk_lt B1.out), Nat.ne_of_lt (blk_lt B2.out), Nat.ne_of_lt (blk_lt B4.out), below_size HB.out⟩)
        ·
         skip
         rintro ⟨ga, ⟨Avk, cvk⟩⟩ p5_3_4 ⟨hS_, h0_, h1_, h2_, h3_, h4_⟩
         have HB : Aside0 (Below w.heap.size w p5_3_4) := ⟨h0_⟩
         have B1 : Aside0 (p5_3_4.heap[g1]? = some (.cells #[.bool true, .slice (some ad) Ks.length c1, .slice A2 Vs.length c2, .slice A3 Cs.length c3] 25 (0, 0))) := ⟨h1_⟩
         have B2 : Aside0 (p5_3_4.heap[g2]? = some (.cells #[.bool false, .slice none 0 0, .slice none 0 0, .slice none 0 0] 25 (0, 0))) := ⟨h2_⟩
         have B4 : Aside0 (p5_3_4.heap[g4]? = some (.cells #[.bool false, .slice none 0 0, .slice none 0 0, .slice none 0 0] 25 (0, 0))) := ⟨h3_⟩
         have HK : Aside0 (Kd.R Kd.string 9 p5_3_4 w.heap.size (fun _ => True) (.slice Avk k1_.length cvk) k1_) := ⟨h4_⟩
         have hHeld : p5_3_4.cell? ⟨g1, 1, none⟩ = some (.slice (some ad) Ks.length c1) ∧ p5_3_4.cell? ⟨g1, 2, none⟩ = some (.slice A2 Vs.length c2) := hS_
         refine norm_ (a' := ?_) ?_ ?_
         rotate_left
         ·
          simp only [putAll, Act.put, List.setIfInBounds_toArray, List.set_cons_zero, List.set_cons_succ]
          rfl
         refine two_ (i := 8) (j := 11) (Ni := some 34) (Nj := some 7) (ba 13 511) (ba 13 2303) rfl rfl rfl rfl (by kernel_rfl) (by decide) (by decide) (fun K hK => ?_) (fun K hK => ?_)
         ·
          skip
          refine value_ (w1 := ?_) (v := ?_) (by rfl) rfl ?_ ?_
          rotate_left 2
          ·
           go_simp
           constructor
           ·
            rfl
           ·
            rfl
          refine hK.out _ _ ⟨((blk_cell (blk_alloc B1.out _) 1).trans rfl), ((blk_cell (blk_alloc B1.out _) 2).trans rfl)⟩ (fun hHeld => ?_)
          clear hK K
          refine norm_ (a' := ?_) ?_ ?_
          rotate_left
          ·
           show Act.put _ (some 34) _ = _
           simp only [Act.put, List.setIfInBounds_toArray, List.set_cons_zero, List.set_cons_succ, i64_w, i32_w]
           rfl
          exact norm_ (by first | (simp only [putAll, Act.put, List.setIfInBounds_toArray, List.set_cons_zero, List.set_cons_succ]; done) | (simp only [putAll, Act.put, List.setIfInBounds_toArray, List.set_cons_zero, List.set_cons_succ]; rfl)) (hJ3_4_8 (ga, (Avk, cvk), p5_3_4.heap.size) _ ⟨hHeld, below_alloc HB.out _, blk_alloc B1.out _, blk_alloc B2.out _, blk_alloc B4.out _, Kd.R_alloc HK.out _, C_new_ss p5_3_4 (by rw [List.length_take]; have := HV4.out; omega) (Nat.le_trans HV4.out HC2.out) (Kd.C_take (Kd.C_below HR2.out HB.out) HV4.out)⟩)
         ·
          skip
          refine value_ (w1 := ?_) (v := ?_) (by rfl) rfl ?_ ?_
          rotate_left 2
          ·
           go_simp
           constructor
           ·
            rfl
           ·
            rfl
          refine hK.out _ _ ⟨((blk_cell (blk_alloc B1.out _) 1).trans rfl), ((blk_cell (blk_alloc B1.out _) 2).trans rfl)⟩ (fun hHeld => ?_)
          clear hK K
          refine norm_ (a' := ?_) ?_ ?_
          rotate_left
          ·
           show Act.put _ (some 7) _ = _
           simp only [Act.put, List.setIfInBounds_toArray, List.set_cons_zero, List.set_cons_succ, i64_w, i32_w]
           rfl
          exact norm_ (by first | (simp only [putAll, Act.put, List.setIfInBounds_toArray, List.set_cons_zero, List.set_cons_succ]; done) | (simp only [putAll, Act.put, List.setIfInBounds_toArray, List.set_cons_zero, List.set_cons_succ]; rfl)) (hJ3_4_11 (ga, (Avk, cvk), p5_3_4.heap.size) _ ⟨hHeld, below_alloc HB.out _, blk_alloc B1.out _, blk_alloc B2.out _, blk_alloc B4.out _, Kd.R_alloc HK.out _, blk_new p5_3_4 _, Nat.ne_of_lt (blk_lt B1.out), Nat.ne_of_lt (blk_lt B2.out), Nat.ne_of_lt (blk_lt B4.out), below_size HB.out⟩)
       ·
        skip
        rintro ⟨ga, gb, g7⟩ p5_3_8_11 ⟨hS_, h0_, h1_, h2_, h3_, h4_, h5_, h6_, h7_, h8_, h9_, h10_⟩
        have HB : Aside0 (Below w.heap.size w p5_3_8_11) := ⟨h0_⟩
        have B1 : Aside0 (p5_3_8_11.heap[g1]? = some (.cells #[.bool true, .slice (some ad) Ks.length c1, .slice A2 Vs.length c2, .slice A3 Cs.length c3] 25 (0, 0))) := ⟨h1_⟩
        have B2 : Aside0 (p5_3_8_11.heap[g2]? = some (.cells #[.bool false, .slice none 0 0, .slice none 0 0, .slice none 0 0] 25 (0, 0))) := ⟨h2_⟩
        have B4 : Aside0 (p5_3_8_11.heap[g4]? = some (.cells #[.bool false, .slice none 0 0, .slice none 0 0, .slice none 0 0] 25 (0, 0))) := ⟨h3_⟩
        have BA : Aside0 (Kd.C (Kd.slice 9 Kd.string) p5_3_8_11 (some ⟨ga, 0, none⟩) 1 [Ks.take 4]) := ⟨h4_⟩
        have BB : Aside0 (Kd.C (Kd.slice 9 Kd.string) p5_3_8_11 (some ⟨gb, 0, none⟩) 1 [Vs.take 4]) := ⟨h5_⟩
        have B7 : Aside0 (p5_3_8_11.heap[g7]? = some (.cells #[.bool false, .slice none 0 0, .slice none 0 0, .slice none 0 0] 25 (0, 0))) := ⟨h6_⟩
        have NE1 : Aside0 (g1 ≠ g7) := ⟨h7_⟩
        have NE2 : Aside0 (g2 ≠ g7) := ⟨h8_⟩
        have NE4 : Aside0 (g4 ≠ g7) := ⟨h9_⟩
        have G7 : Aside0 (w.heap.size ≤ g7) := ⟨h10_⟩
        have hHeld : p5_3_8_11.cell? ⟨g1, 1, none⟩ = some (.slice (some ad) Ks.length c1) ∧ p5_3_8_11.cell? ⟨g1, 2, none⟩ = some (.slice A2 Vs.length c2) := hS_
        refine norm_ (a' := ?_) ?_ ?_
        rotate_left
        ·
         simp only [putAll, Act.put, List.setIfInBounds_toArray, List.set_cons_zero, List.set_cons_succ]
         rfl
        refine one_ (i := 4) (N := some 30) (ba 13 2559) rfl rfl (by kernel_rfl) (by decide) (fun K hK => ?_)
        refine goes_ Try.func36 (by kernel_rfl) rfl #[.slice (some ⟨ga, 0, none⟩) ([Ks.take 4] : List _).length 1] (by rfl) rfl rfl (by simp only [List.map_toArray, List.map_cons, List.map_nil]; rfl) ?_
        with_reducible refine (node_rows_string.calls k _ 1 [Ks.take 4] k1_ _ BA.out (Nat.le_refl _) T1.out).mono ?_
        rintro e wc_ ⟨vk, rfl, ho_, hb⟩
        refine ⟨_, rfl, ?_⟩
        obtain ⟨Avk, cvk, e_⟩ := Kd.R_slice ho_
        subst e_
        have HK := am (Kd.R_lower ho_ (below_size HB.out))
        have B1 := am (blk_below B1.out hb)
        have B2 := am (blk_below B2.out hb)
        have B4 := am (blk_below B4.out hb)
        have BB := am (Kd.C_below BB.out hb)
        have B7 := am (blk_below B7.out hb)
        have HB := am (below_step HB.out hb)
        clear ho_ hb
        refine hK.out _ _ ⟨((blk_cell (B1.out) 1).trans rfl), ((blk_cell (B1.out) 2).trans rfl)⟩ (fun hHeld => ?_)
        clear hK K
        refine norm_ (a' := ?_) ?_ ?_
        rotate_left
        ·
         show Act.put _ (some 30) _ = _
         simp only [Act.put, List.setIfInBounds_toArray, List.set_cons_zero, List.set_cons_succ, i64_w, i32_w]
         rfl
        exact norm_ (by first | (simp only [putAll, Act.put, List.setIfInBounds_toArray, List.set_cons_zero, List.set_cons_succ]; done) | (simp only [putAll, Act.put, List.setIfInBounds_toArray, List.set_cons_zero, List.set_cons_succ]; rfl)) (hJ3_4_8_11 (ga, (Avk, cvk), gb, g7) _ ⟨hHeld, HB.out, B1.out, B2.out, B4.out, HK.out, BB.out, B7.out, NE1.out, NE2.out, NE4.out, G7.out⟩)
      ·
       skip
       rintro ⟨ga, ⟨Avk, cvk⟩, g7⟩ p5_3_4_11 ⟨hS_, h0_, h1_, h2_, h3_, h4_, h5_, h6_, h7_, h8_, h9_⟩
       have HB : Aside0 (Below w.heap.size w p5_3_4_11) := ⟨h0_⟩
       have B1 : Aside0 (p5_3_4_11.heap[g1]? = some (.cells #[.bool true, .slice (some ad) Ks.length c1, .slice A2 Vs.length c2, .slice A3 Cs.length c3] 25 (0, 0))) := ⟨h1_⟩
       have B2 : Aside0 (p5_3_4_11.heap[g2]? = some (.cells #[.bool false, .slice none 0 0, .slice none 0 0, .slice none 0 0] 25 (0, 0))) := ⟨h2_⟩
       have B4 : Aside0 (p5_3_4_11.heap[g4]? = some (.cells #[.bool false, .slice none 0 0, .slice none 0 0, .slice none 0 0] 25 (0, 0))) := ⟨h3_⟩
       have HK : Aside0 (Kd.R Kd.string 9 p5_3_4_11 w.heap.size (fun _ => True) (.slice Avk k1_.length cvk) k1_) := ⟨h4_⟩
       have B7 : Aside0 (p5_3_4_11.heap[g7]? = some (.cells #[.bool false, .slice none 0 0, .slice none 0 0, .slice none 0 0] 25 (0, 0))) := ⟨h5_⟩
       have NE1 : Aside0 (g1 ≠ g7) := ⟨h6_⟩
       have NE2 : Aside0 (g2 ≠ g7) := ⟨h7_⟩
       have NE4 : Aside0 (g4 ≠ g7) := ⟨h8_⟩
       have G7 : Aside0 (w.heap.size ≤ g7) := ⟨h9_⟩
       have hHeld : p5_3_4_11.cell? ⟨g1, 1, none⟩ = some (.slice (some ad) Ks.length c1) ∧ p5_3_4_11.cell? ⟨g1, 2, none⟩ = some (.slice A2 Vs.length c2) := hS_
       refine norm_ (a' := ?_) ?_ ?_
       rotate_left
       ·
        simp only [putAll, Act.put, List.setIfInBounds_toArray, List.set_cons_zero, List.set_cons_succ]
        rfl
       refine one_ (i := 8) (N := some 34) (ba 13 2559) rfl rfl (by kernel_rfl) (by decide) (fun K hK => ?_)
       refine value_ (w1 := ?_) (v := ?_) (by rfl) rfl ?_ ?_
       rotate_left 2
       ·
        go_simp
        constructor
        ·
         rfl
        ·
         rfl
       refine hK.out _ _ ⟨((blk_cell (blk_alloc B1.out _) 1).trans rfl), ((blk_cell (blk_alloc B1.out _) 2).trans rfl)⟩ (fun hHeld => ?_)
       clear hK K
       refine norm_ (a' := ?_) ?_ ?_
       rotate_left
       ·
        show Act.put _ (some 34) _ = _
        simp only [Act.put, List.setIfInBounds_toArray, List.set_cons_zero, List.set_cons_succ, i64_w, i32_w]
        rfl
       exact norm_ (by first | (simp only [putAll, Act.put, List.setIfInBounds_toArray, List.set_cons_zero, List.set_cons_succ]; done) | (simp only [putAll, Act.put, List.setIfInBounds_toArray, List.set_cons_zero, List.set_cons_succ]; rfl)) (hJ3_4_8_11 (ga, (Avk, cvk), p5_3_4_11.heap.size, g7) _ ⟨hHeld, below_alloc HB.out _, blk_alloc B1.out _, blk_alloc B2.out _, blk_alloc B4.out _, Kd.R_alloc HK.out _, C_new_ss p5_3_4_11 (by rw [List.length_take]; have := HV4.out; omega) (Nat.le_trans HV4.out HC2.out) (Kd.C_take (Kd.C_below HR2.out HB.out) HV4.out), blk_alloc B7.out _, NE1.out, NE2.out, NE4.out, G7.out⟩)
     ·
      skip
      rintro ⟨ga, ⟨Avk, cvk⟩, gb⟩ p5_3_4_8 ⟨hS_, h0_, h1_, h2_, h3_, h4_, h5_⟩
      have HB : Aside0 (Below w.heap.size w p5_3_4_8) := ⟨h0_⟩
      have B1 : Aside0 (p5_3_4_8.heap[g1]? = some (.cells #[.bool true, .slice (some ad) Ks.length c1, .slice A2 Vs.length c2, .slice A3 Cs.length c3] 25 (0, 0))) := ⟨h1_⟩
      have B2 : Aside0 (p5_3_4_8.heap[g2]? = some (.cells #[.bool false, .slice none 0 0, .slice none 0 0, .slice none 0 0] 25 (0, 0))) := ⟨h2_⟩
      have B4 : Aside0 (p5_3_4_8.heap[g4]? = some (.cells #[.bool false, .slice none 0 0, .slice none 0 0, .slice none 0 0] 25 (0, 0))) := ⟨h3_⟩
      have HK : Aside0 (Kd.R Kd.string 9 p5_3_4_8 w.heap.size (fun _ => True) (.slice Avk k1_.length cvk) k1_) := ⟨h4_⟩
      have BB : Aside0 (Kd.C (Kd.slice 9 Kd.string) p5_3_4_8 (some ⟨gb, 0, none⟩) 1 [Vs.take 4]) := ⟨h5_⟩
      have hHeld : p5_3_4_8.cell? ⟨g1, 1, none⟩ = some (.slice (some ad) Ks.length c1) ∧ p5_3_4_8.cell? ⟨g1, 2, none⟩ = some (.slice A2 Vs.length c2) := hS_
      refine norm_ (a' := ?_) ?_ ?_
      rotate_left
      ·
       simp only [putAll, Act.put, List.setIfInBounds_toArray, List.set_cons_zero, List.set_cons_succ]
       rfl
      refine two_ (i := 9) (j := 11) (Ni := some 35) (Nj := some 7) (ba 13 1023) (ba 13 2559) rfl rfl rfl rfl (by kernel_rfl) (by decide) (by decide) (fun K hK => ?_) (fun K hK => ?_)
      ·
       skip
       refine goes_ Try.func36 (by kernel_rfl) rfl #[.slice (some ⟨gb, 0, none⟩) ([Vs.take 4] : List _).length 1] (by rfl) rfl rfl (by simp only [List.map_toArray, List.map_cons, List.map_nil]; rfl) ?_
       with_reducible refine (node_rows_string.calls k _ 1 [Vs.take 4] v1_ _ BB.out (Nat.le_refl _) T2.out).mono ?_
       rintro e wc_ ⟨vv, rfl, ho_, hb⟩
       refine ⟨_, rfl, ?_⟩
       obtain ⟨Avv, cvv, e_⟩ := Kd.R_slice ho_
       subst e_
       have HV := am (Kd.R_lower ho_ (below_size HB.out))
       have B1 := am (blk_below B1.out hb)
       have B2 := am (blk_below B2.out hb)
       have B4 := am (blk_below B4.out hb)
       have HK := am (Kd.R_below HK.out hb)
       have HB := am (below_step HB.out hb)
       clear ho_ hb
       refine hK.out _ _ ⟨((blk_cell (B1.out) 1).trans rfl), ((blk_cell (B1.out) 2).trans rfl)⟩ (fun hHeld => ?_)
       clear hK K
       refine norm_ (a' := ?_) ?_ ?_
       rotate_left
       ·
        show Act.put _ (some 35) _ = _
        simp only [Act.put, List.setIfInBounds_toArray, List.set_cons_zero, List.set_cons_succ, i64_w, i32_w]
        rfl
       refine pure_ (i := 10) (N := some 36) (v := ?_) (a' := ?_) (ba 13 2047) rfl rfl (by kernel_rfl) (fun _ _ _ h => h) (Or.inl ⟨by rfl, ?_⟩) ?_ ?_
       rotate_left
       ·
        intro w'
        go_simp
        with_reducible rfl
       rotate_left
       ·
        simp only [Act.put, List.setIfInBounds_toArray, List.set_cons_zero, List.set_cons_succ, i64_w, i32_w]
        rfl
       exact norm_ (by first | (simp only [putAll, Act.put, List.setIfInBounds_toArray, List.set_cons_zero, List.set_cons_succ]; done) | (simp only [putAll, Act.put, List.setIfInBounds_toArray, List.set_cons_zero, List.set_cons_succ]; rfl)) (hJ3_4_8_9 (ga, (Avk, cvk), gb, (Avv, cvv)) _ ⟨hHeld, HB.out, B1.out, B2.out, B4.out, HK.out, HV.out⟩)
      ·
       skip
       refine value_ (w1 := ?_) (v := ?_) (by rfl) rfl ?_ ?_
       rotate_left 2
       ·
        go_simp
        constructor
        ·
         rfl
        ·
         rfl
       refine hK.out _ _ ⟨((blk_cell (blk_alloc B1.out _) 1).trans rfl), ((blk_cell (blk_alloc B1.out _) 2).trans rfl)⟩ (fun hHeld => ?_)
       clear hK K
       refine norm_ (a' := ?_) ?_ ?_
       rotate_left
       ·
        show Act.put _ (some 7) _ = _
        simp only [Act.put, List.setIfInBounds_toArray, List.set_cons_zero, List.set_cons_succ, i64_w, i32_w]
        rfl
       exact norm_ (by first | (simp only [putAll, Act.put, List.setIfInBounds_toArray, List.set_cons_zero, List.set_cons_succ]; done) | (simp only [putAll, Act.put, List.setIfInBounds_toArray, List.set_cons_zero, List.set_cons_succ]; rfl)) (hJ3_4_8_11 (ga, (Avk, cvk), gb, p5_3_4_8.heap.size) _ ⟨hHeld, below_alloc HB.out _, blk_alloc B1.out _, blk_alloc B2.out _, blk_alloc B4.out _, Kd.R_alloc HK.out _, Kd.C_alloc BB.out _, blk_new p5_3_4_8 _, Nat.ne_of_lt (blk_lt B1.out), Nat.ne_of_lt (blk_lt B2.out), Nat.ne_of_lt (blk_lt B4.out), below_size HB.out⟩)
    ·
     skip
     rintro ⟨ga, ⟨Avk, cvk⟩, gb, g7⟩ p5_3_4_8_11 ⟨hS_, h0_, h1_, h2_, h3_, h4_, h5_, h6_, h7_, h8_, h9_, h10_⟩
     have HB : Aside0 (Below w.heap.size w p5_3_4_8_11) := ⟨h0_⟩
     have B1 : Aside0 (p5_3_4_8_11.heap[g1]? = some (.cells #[.bool true, .slice (some ad) Ks.length c1, .slice A2 Vs.length c2, .slice A3 Cs.length c3] 25 (0, 0))) := ⟨h1_⟩
     have B2 : Aside0 (p5_3_4_8_11.heap[g2]? = some (.cells #[.bool false, .slice none 0 0, .slice none 0 0, .slice none 0 0] 25 (0, 0))) := ⟨h2_⟩
     have B4 : Aside0 (p5_3_4_8_11.heap[g4]? = some (.cells #[.bool false, .slice none 0 0, .slice none 0 0, .slice none 0 0] 25 (0, 0))) := ⟨h3_⟩
     have HK : Aside0 (Kd.R Kd.string 9 p5_3_4_8_11 w.heap.size (fun _ => True) (.slice Avk k1_.length cvk) k1_) := ⟨h4_⟩
     have BB : Aside0 (Kd.C (Kd.slice 9 Kd.string) p5_3_4_8_11 (some ⟨gb, 0, none⟩) 1 [Vs.take 4]) := ⟨h5_⟩
     have B7 : Aside0 (p5_3_4_8_11.heap[g7]? = some (.cells #[.bool false, .slice none 0 0, .slice none 0 0, .slice none 0 0] 25 (0, 0))) := ⟨h6_⟩
     have NE1 : Aside0 (g1 ≠ g7) := ⟨h7_⟩
     have NE2 : Aside0 (g2 ≠ g7) := ⟨h8_⟩
     have NE4 : Aside0 (g4 ≠ g7) := ⟨h9_⟩
     have G7 : Aside0 (w.heap.size ≤ g7) := ⟨h10_⟩
     have hHeld : p5_3_4_8_11.cell? ⟨g1, 1, none⟩ = some (.slice (some ad) Ks.length c1) ∧ p5_3_4_8_11.cell? ⟨g1, 2, none⟩ = some (.slice A2 Vs.length c2) := hS_
     refine norm_ (a' := ?_) ?_ ?_
     rotate_left
     ·
      simp only [putAll, Act.put, List.setIfInBounds_toArray, List.set_cons_zero, List.set_cons_succ]
      rfl
     refine one_ (i := 9) (N := some 35) (ba 13 3071) rfl rfl (by kernel_rfl) (by decide) (fun K hK => ?_)
     refine goes_ Try.func36 (by kernel_rfl) rfl #[.slice (some ⟨gb, 0, none⟩) ([Vs.take 4] : List _).length 1] (by rfl) rfl rfl (by simp only [List.map_toArray, List.map_cons, List.map_nil]; rfl) ?_
     with_reducible refine (node_rows_string.calls k _ 1 [Vs.take 4] v1_ _ BB.out (Nat.le_refl _) T2.out).mono ?_
     rintro e wc_ ⟨vv, rfl, ho_, hb⟩
     refine ⟨_, rfl, ?_⟩
     obtain ⟨Avv, cvv, e_⟩ := Kd.R_slice ho_
     subst e_
     have HV := am (Kd.R_lower ho_ (below_size HB.out))
     have B1 := am (blk_below B1.out hb)
     have B2 := am (blk_below B2.out hb)
     have B4 := am (blk_below B4.out hb)
     have HK := am (Kd.R_below HK.out hb)
     have B7 := am (blk_below B7.out hb)
     have HB := am (below_step HB.out hb)
     clear ho_ hb
     refine hK.out _ _ ⟨((blk_cell (B1.out) 1).trans rfl), ((blk_cell (B1.out) 2).trans rfl)⟩ (fun hHeld => ?_)
     clear hK K
     refine norm_ (a' := ?_) ?_ ?_
     rotate_left
     ·
      show Act.put _ (some 35) _ = _
      simp only [Act.put, List.setIfInBounds_toArray, List.set_cons_zero, List.set_cons_succ, i64_w, i32_w]
      rfl
     refine pure_ (i := 10) (N := some 36) (v := ?_) (a' := ?_) (ba 13 4095) rfl rfl (by kernel_rfl) (fun _ _ _ h => h) (Or.inl ⟨by rfl, ?_⟩) ?_ ?_
     rotate_left
     ·
      intro w'
      go_simp
      with_reducible rfl
     rotate_left
     ·
      simp only [Act.put, List.setIfInBounds_toArray, List.set_cons_zero, List.set_cons_succ, i64_w, i32_w]
      rfl
     exact norm_ (by first | (simp only [putAll, Act.put, List.setIfInBounds_toArray, List.set_cons_zero, List.set_cons_succ]; done) | (simp only [putAll, Act.put, List.setIfInBounds_toArray, List.set_cons_zero, List.set_cons_succ]; rfl)) (hJ3_4_8_9_11 (ga, (Avk, cvk), gb, (Avv, cvv), g7) _ ⟨hHeld, HB.out, B1.out, B2.out, B4.out, HK.out, HV.out, B7.out, NE1.out, NE2.out, NE4.out, G7.out⟩)
   ·
    skip
    rintro ⟨ga, ⟨Avk, cvk⟩, gb, ⟨Avv, cvv⟩⟩ p5_3_4_8_9 ⟨hS_, h0_, h1_, h2_, h3_, h4_, h5_⟩
    have HB : Aside0 (Below w.heap.size w p5_3_4_8_9) := ⟨h0_⟩
    have B1 : Aside0 (p5_3_4_8_9.heap[g1]? = some (.cells #[.bool true, .slice (some ad) Ks.length c1, .slice A2 Vs.length c2, .slice A3 Cs.length c3] 25 (0, 0))) := ⟨h1_⟩
    have B2 : Aside0 (p5_3_4_8_9.heap[g2]? = some (.cells #[.bool false, .slice none 0 0, .slice none 0 0, .slice none 0 0] 25 (0, 0))) := ⟨h2_⟩
    have B4 : Aside0 (p5_3_4_8_9.heap[g4]? = some (.cells #[.bool false, .slice none 0 0, .slice none 0 0, .slice none 0 0] 25 (0, 0))) := ⟨h3_⟩
    have HK : Aside0 (Kd.R Kd.string 9 p5_3_4_8_9 w.heap.size (fun _ => True) (.slice Avk k1_.length cvk) k1_) := ⟨h4_⟩
    have HV : Aside0 (Kd.R Kd.string 9 p5_3_4_8_9 w.heap.size (fun _ => True) (.slice Avv v1_.length cvv) v1_) := ⟨h5_⟩
    have hHeld : p5_3_4_8_9.cell? ⟨g1, 1, none⟩ = some (.slice (some ad) Ks.length c1) ∧ p5_3_4_8_9.cell? ⟨g1, 2, none⟩ = some (.slice A2 Vs.length c2) := hS_
    refine norm_ (a' := ?_) ?_ ?_
    rotate_left
    ·
     simp only [putAll, Act.put, List.setIfInBounds_toArray, List.set_cons_zero, List.set_cons_succ]
     rfl
    refine one_ (i := 11) (N := some 7) (ba 13 4095) rfl rfl (by kernel_rfl) (by decide) (fun K hK => ?_)
    refine value_ (w1 := ?_) (v := ?_) (by rfl) rfl ?_ ?_
    rotate_left 2
    ·
     go_simp
     constructor
     ·
      rfl
     ·
      rfl
    refine hK.out _ _ ⟨((blk_cell (blk_alloc B1.out _) 1).trans rfl), ((blk_cell (blk_alloc B1.out _) 2).trans rfl)⟩ (fun hHeld => ?_)
    clear hK K
    refine norm_ (a' := ?_) ?_ ?_
    rotate_left
    ·
     show Act.put _ (some 7) _ = _
     simp only [Act.put, List.setIfInBounds_toArray, List.set_cons_zero, List.set_cons_succ, i64_w, i32_w]
     rfl
    exact norm_ (by first | (simp only [putAll, Act.put, List.setIfInBounds_toArray, List.set_cons_zero, List.set_cons_succ]; done) | (simp only [putAll, Act.put, List.setIfInBounds_toArray, List.set_cons_zero, List.set_cons_succ]; rfl)) (hJ3_4_8_9_11 (ga, (Avk, cvk), gb, (Avv, cvv), p5_3_4_8_9.heap.size) _ ⟨hHeld, below_alloc HB.out _, blk_alloc B1.out _, blk_alloc B2.out _, blk_alloc B4.out _, Kd.R_alloc HK.out _, Kd.R_alloc HV.out _, blk_new p5_3_4_8_9 _, Nat.ne_of_lt (blk_lt B1.out), Nat.ne_of_lt (blk_lt B2.out), Nat.ne_of_lt (blk_lt B4.out), below_size HB.out⟩)
  rintro ⟨ga, ⟨Avk, cvk⟩, gb, ⟨Avv, cvv⟩, g7⟩ p5_3_4_8_9_11 ⟨hS_, h0_, h1_, h2_, h3_, h4_, h5_, h6_, h7_, h8_, h9_, h10_⟩
  have HB : Aside0 (Below w.heap.size w p5_3_4_8_9_11) := ⟨h0_⟩
  have B1 : Aside0 (p5_3_4_8_9_11.heap[g1]? = some (.cells #[.bool true, .slice (some ad) Ks.length c1, .slice A2 Vs.length c2, .slice A3 Cs.length c3] 25 (0, 0))) := ⟨h1_⟩
  have B2 : Aside0 (p5_3_4_8_9_11.heap[g2]? = some (.cells #[.bool false, .slice none 0 0, .slice none 0 0, .slice none 0 0] 25 (0, 0))) := ⟨h2_⟩
  have B4 : Aside0 (p5_3_4_8_9_11.heap[g4]? = some (.cells #[.bool false, .slice none 0 0, .slice none 0 0, .slice none 0 0] 25 (0, 0))) := ⟨h3_⟩
  have HK : Aside0 (Kd.R Kd.string 9 p5_3_4_8_9_11 w.heap.size (fun _ => True) (.slice Avk k1_.length cvk) k1_) := ⟨h4_⟩
  have HV : Aside0 (Kd.R Kd.string 9 p5_3_4_8_9_11 w.heap.size (fun _ => True) (.slice Avv v1_.length cvv) v1_) := ⟨h5_⟩
  have B7 : Aside0 (p5_3_4_8_9_11.heap[g7]? = some (.cells #[.bool false, .slice none 0 0, .slice none 0 0, .slice none 0 0] 25 (0, 0))) := ⟨h6_⟩
  have NE1 : Aside0 (g1 ≠ g7) := ⟨h7_⟩
  have NE2 : Aside0 (g2 ≠ g7) := ⟨h8_⟩
  have NE4 : Aside0 (g4 ≠ g7) := ⟨h9_⟩
  have G7 : Aside0 (w.heap.size ≤ g7) := ⟨h10_⟩
  have hHeld : p5_3_4_8_9_11.cell? ⟨g1, 1, none⟩ = some (.slice (some ad) Ks.length c1) ∧ p5_3_4_8_9_11.cell? ⟨g1, 2, none⟩ = some (.slice A2 Vs.length c2) := hS_
  refine norm_ (a' := ?_) ?_ ?_
  rotate_left
  ·
   simp only [putAll, Act.put, List.setIfInBounds_toArray, List.set_cons_zero, List.set_cons_succ]
   rfl
  refine last_ (i := 12) (N := none) (ba 13 8191) rfl rfl (by kernel_rfl) (by decide) (fun K hK => ?_)
  have x0 : p5_3_4_8_9_11.cell? ⟨g7, 0, none⟩ = some (.bool false) := bc B7.out
  have x1 : p5_3_4_8_9_11.cell? ⟨g7, 1, none⟩ = some (.slice none 0 0) := bc B7.out
  have x2 : p5_3_4_8_9_11.cell? ⟨g7, 2, none⟩ = some (.slice none 0 0) := bc B7.out
  have x3 : p5_3_4_8_9_11.cell? ⟨g7, 3, none⟩ = some (.slice none 0 0) := bc B7.out
  obtain ⟨xf0, xf1, xf2, xf3⟩ := z4 B7.out
  refine skip_ (w1 := ?_) (by rfl) rfl ?_ ?_
  rotate_left
  ·
   go_simp
   rfl
  refine hK.out _ _ ?_
  clear hK K
  refine done_ (by kernel_rfl) ?_
  clear x0 x1 x2 x3 xf0 xf1 xf2 xf3
  have X7 := am (show ((((p5_3_4_8_9_11.setCell ⟨g7, 0, none⟩ (.bool true)).setCell ⟨g7, 1, none⟩ (.slice Avk k1_.length cvk)).setCell ⟨g7, 2, none⟩ (.slice Avv v1_.length cvv)).setCell ⟨g7, 3, none⟩ (.slice none 0 0)).heap[g7]? = some (.cells #[.bool true, .slice Avk k1_.length cvk, .slice Avv v1_.length cvv, .slice none 0 0] 25 (0, 0)) from set4_put B7.out)
  have XB1 := am (show ((((p5_3_4_8_9_11.setCell ⟨g7, 0, none⟩ (.bool true)).setCell ⟨g7, 1, none⟩ (.slice Avk k1_.length cvk)).setCell ⟨g7, 2, none⟩ (.slice Avv v1_.length cvv)).setCell ⟨g7, 3, none⟩ (.slice none 0 0)).heap[g1]? = some (.cells #[.bool true, .slice (some ad) Ks.length c1, .slice A2 Vs.length c2, .slice A3 Cs.length c3] 25 (0, 0)) from set4_far B1.out NE1.out)
  have XB2 := am (show ((((p5_3_4_8_9_11.setCell ⟨g7, 0, none⟩ (.bool true)).setCell ⟨g7, 1, none⟩ (.slice Avk k1_.length cvk)).setCell ⟨g7, 2, none⟩ (.slice Avv v1_.length cvv)).setCell ⟨g7, 3, none⟩ (.slice none 0 0)).heap[g2]? = some (.cells #[.bool false, .slice none 0 0, .slice none 0 0, .slice none 0 0] 25 (0, 0)) from set4_far B2.out NE2.out)
  have XB4 := am (show ((((p5_3_4_8_9_11.setCell ⟨g7, 0, none⟩ (.bool true)).setCell ⟨g7, 1, none⟩ (.slice Avk k1_.length cvk)).setCell ⟨g7, 2, none⟩ (.slice Avv v1_.length cvv)).setCell ⟨g7, 3, none⟩ (.slice none 0 0)).heap[g4]? = some (.cells #[.bool false, .slice none 0 0, .slice none 0 0, .slice none 0 0] 25 (0, 0)) from set4_far B4.out NE4.out)
  have XHK := am (show Kd.R Kd.string 9 ((((p5_3_4_8_9_11.setCell ⟨g7, 0, none⟩ (.bool true)).setCell ⟨g7, 1, none⟩ (.slice Avk k1_.length cvk)).setCell ⟨g7, 2, none⟩ (.slice Avv v1_.length cvv)).setCell ⟨g7, 3, none⟩ (.slice none 0 0)) w.heap.size (fun _ => True) (.slice Avk k1_.length cvk) k1_ from set4_R HK.out B7.out (by decide))
  have XHV := am (show Kd.R Kd.string 9 ((((p5_3_4_8_9_11.setCell ⟨g7, 0, none⟩ (.bool true)).setCell ⟨g7, 1, none⟩ (.slice Avk k1_.length cvk)).setCell ⟨g7, 2, none⟩ (.slice Avv v1_.length cvv)).setCell ⟨g7, 3, none⟩ (.slice none 0 0)) w.heap.size (fun _ => True) (.slice Avv v1_.length cvv) v1_ from set4_R HV.out B7.out (by decide))
  have XB := am (show Below w.heap.size w ((((p5_3_4_8_9_11.setCell ⟨g7, 0, none⟩ (.bool true)).setCell ⟨g7, 1, none⟩ (.slice Avk k1_.length cvk)).setCell ⟨g7, 2, none⟩ (.slice Avv v1_.length cvv)).setCell ⟨g7, 3, none⟩ (.slice none 0 0)) from set4_below HB.out G7.out)
  clear B7 B1 B2 B4 HK HV HB
  have B7 := X7
  have B1 := XB1
  have B2 := XB2
  have B4 := XB4
  have HK := XHK
  have HV := XHV
  have HB := XB
  clear X7 XB1 XB2 XB4 XHK XHV XB
  generalize (((p5_3_4_8_9_11.setCell ⟨g7, 0, none⟩ (.bool true)).setCell ⟨g7, 1, none⟩ (.slice Avk k1_.length cvk)).setCell ⟨g7, 2, none⟩ (.slice Avv v1_.length cvv)).setCell ⟨g7, 3, none⟩ (.slice none 0 0) = q6 at *
  go_upto_region 6 with fail
  replace HB := am (below_drew1 HB.out)
  replace B1 := am (blk_drew B1.out)
  replace B2 := am (blk_drew B2.out)
  replace B4 := am (blk_drew B4.out)
  replace B7 := am (blk_drew B7.out)
  replace HK := am (Kd.R_drew HK.out)
  replace HV := am (Kd.R_drew HV.out)
  refine start_ (n := 17) (S := fun w' => w'.cell? ⟨g7, 0, none⟩ = some (.bool true) ∧ w'.cell? ⟨g7, 1, none⟩ = some (.slice Avk k1_.length cvk) ∧ w'.cell? ⟨g7, 2, none⟩ = some (.slice Avv v1_.length cvv) ∧ w'.cell? ⟨g7, 3, none⟩ = some (.slice none 0 0) ∧ w'.cell? ⟨g1, 1, none⟩ = some (.slice (some ad) Ks.length c1) ∧ w'.cell? ⟨g1, 2, none⟩ = some (.slice A2 Vs.length c2)) (ds := [13, 15]) (ba 17 0) (by kernel_rfl) rfl rfl ⟨((blk_cell (B7.out) 0).trans rfl), ((blk_cell (B7.out) 1).trans rfl), ((blk_cell (B7.out) 2).trans rfl), ((blk_cell (B7.out) 3).trans rfl), ((blk_cell (B1.out) 1).trans rfl), ((blk_cell (B1.out) 2).trans rfl)⟩ (fun hHeld => ?_)
  generalize q6.drew = p6 at HB B1 B2 B4 B7 HK HV hHeld ⊢
  refine pure_ (i := 1) (N := some 38) (v := ?_) (a' := ?_) (ba 17 2) rfl rfl (by kernel_rfl) (fun _ _ _ h => h) (Or.inl ⟨by rfl, ?_⟩) ?_ ?_
  rotate_left
  ·
   intro w'
   go_simp
   with_reducible rfl
  rotate_left
  ·
   simp only [Act.put, List.setIfInBounds_toArray, List.set_cons_zero, List.set_cons_succ, i64_w, i32_w]
   rfl
  refine pure_ (i := 2) (N := some 39) (v := ?_) (a' := ?_) (ba 17 6) rfl rfl (by kernel_rfl) (fun _ _ _ h => h) (Or.inl ⟨by rfl, ?_⟩) ?_ ?_
  rotate_left
  ·
   intro w'
   go_simp
   with_reducible rfl
  rotate_left
  ·
   simp only [Act.put, List.setIfInBounds_toArray, List.set_cons_zero, List.set_cons_succ, i64_w, i32_w]
   rfl
  refine pure_ (i := 7) (N := some 44) (v := ?_) (a' := ?_) (ba 17 134) rfl rfl (by kernel_rfl) (fun _ _ _ h => h) (Or.inl ⟨by rfl, ?_⟩) ?_ ?_
  rotate_left
  ·
   intro w'
   go_simp
   with_reducible rfl
  rotate_left
  ·
   simp only [Act.put, List.setIfInBounds_toArray, List.set_cons_zero, List.set_cons_succ, i64_w, i32_w]
   rfl
  refine take_ (i := 0) (N := some 37) (v := ?_) (a' := ?_) (ba 17 135) rfl rfl (by kernel_rfl) (fun _ _ _ h => h) (Or.inl ⟨by rfl, ?_⟩) hHeld ?_ ?_
  rotate_left
  ·
   rintro w' ⟨s0, s1, s2, s3, s4, s5⟩
   go_simp
   with_reducible rfl
  rotate_left
  ·
   simp only [Act.put, List.setIfInBounds_toArray, List.set_cons_zero, List.set_cons_succ, i64_w, i32_w]
   rfl
  refine take_ (i := 3) (N := some 40) (v := ?_) (a' := ?_) (ba 17 143) rfl rfl (by kernel_rfl) (fun _ _ _ h => h) (Or.inl ⟨by rfl, ?_⟩) hHeld ?_ ?_
  rotate_left
  ·
   rintro w' ⟨s0, s1, s2, s3, s4, s5⟩
   go_simp
   with_reducible rfl
  rotate_left
  ·
   simp only [Act.put, List.setIfInBounds_toArray, List.set_cons_zero, List.set_cons_succ, i64_w, i32_w]
   rfl
  refine pure_ (i := 4) (N := some 41) (v := ?_) (a' := ?_) (ba 17 159) rfl rfl (by kernel_rfl) (fun _ _ _ h => h) (Or.inl ⟨by rfl, ?_⟩) ?_ ?_
  rotate_left
  ·
   intro w'
   go_simp
   with_reducible rfl
  rotate_left
  ·
   simp only [Act.put, List.setIfInBounds_toArray, List.set_cons_zero, List.set_cons_succ, i64_w, i32_w]
   rfl
  refine take_ (i := 8) (N := some 45) (v := ?_) (a' := ?_) (ba 17 415) rfl rfl (by kernel_rfl) (fun _ _ _ h => h) (Or.inl ⟨by rfl, ?_⟩) hHeld ?_ ?_
  rotate_left
  ·
   rintro w' ⟨s0, s1, s2, s3, s4, s5⟩
   go_simp
   with_reducible rfl
  rotate_left
  ·
   simp only [Act.put, List.setIfInBounds_toArray, List.set_cons_zero, List.set_cons_succ, i64_w, i32_w]
   rfl
  refine pure_ (i := 9) (N := some 46) (v := ?_) (a' := ?_) (ba 17 927) rfl rfl (by kernel_rfl) (fun _ _ _ h => h) (Or.inl ⟨by rfl, ?_⟩) ?_ ?_
  rotate_left
  ·
   intro w'
   go_simp
   with_reducible rfl
  rotate_left
  ·
   simp only [Act.put, List.setIfInBounds_toArray, List.set_cons_zero, List.set_cons_succ, i64_w, i32_w]
   rfl
  refine join_ (σ := Nat × (Option Addr × Nat) × Nat) 6 (ba 17 2047) (fun s_ => [(42, .slice (some ⟨s_.1, 0, none⟩) 1 1), (43, .slice (s_.2.1).1 k2_.length (s_.2.1).2), (47, .slice (some ⟨s_.2.2, 0, none⟩) 1 1)]) (fun s_ w' => (w'.cell? ⟨g7, 0, none⟩ = some (.bool true) ∧ w'.cell? ⟨g7, 1, none⟩ = some (.slice Avk k1_.length cvk) ∧ w'.cell? ⟨g7, 2, none⟩ = some (.slice Avv v1_.length cvv) ∧ w'.cell? ⟨g7, 3, none⟩ = some (.slice none 0 0) ∧ w'.cell? ⟨g1, 1, none⟩ = some (.slice (some ad) Ks.length c1) ∧ w'.cell? ⟨g1, 2, none⟩ = some (.slice A2 Vs.length c2)) ∧ (Below w.heap.size w w') ∧ (w'.heap[g1]? = some (.cells #[.bool true, .slice (some ad) Ks.length c1, .slice A2 Vs.length c2, .slice A3 Cs.length c3] 25 (0, 0))) ∧ (w'.heap[g2]? = some (.cells #[.bool false, .slice none 0 0, .slice none 0 0, .slice none 0 0] 25 (0, 0))) ∧ (w'.heap[g4]? = some (.cells #[.bool false, .slice none 0 0, .slice none 0 0, .slice none 0 0] 25 (0, 0))) ∧ (w'.heap[g7]? = some (.cells #[.bool true, .slice Avk k1_.length cvk, .slice Avv v1_.length cvv, .slice none 0 0] 25 (0, 0))) ∧ (Kd.R Kd.string 9 w' w.heap.size (fun _ => True) (.slice Avk k1_.length cvk) k1_) ∧ (Kd.R Kd.string 9 w' w.heap.size (fun _ => True) (.slice Avv v1_.length cvv) v1_) ∧ (Kd.R Kd.string 9 w' w.heap.size (fun _ => True) (.slice (s_.2.1).1 k2_.length (s_.2.1).2) k2_) ∧ (Kd.C (Kd.slice 9 Kd.string) w' (some ⟨s_.2.2, 0, none⟩) 1 [Vs.drop 4])) ?_ ?_
  rotate_left
  ·
   intro hJ5_6_10
   refine join_ (σ := Nat × (Option Addr × Nat)) 7 (ba 17 1023) (fun s_ => [(42, .slice (some ⟨s_.1, 0, none⟩) 1 1), (43, .slice (s_.2).1 k2_.length (s_.2).2)]) (fun s_ w' => (w'.cell? ⟨g7, 0, none⟩ = some (.bool true) ∧ w'.cell? ⟨g7, 1, none⟩ = some (.slice Avk k1_.length cvk) ∧ w'.cell? ⟨g7, 2, none⟩ = some (.slice Avv v1_.length cvv) ∧ w'.cell? ⟨g7, 3, none⟩ = some (.slice none 0 0) ∧ w'.cell? ⟨g1, 1, none⟩ = some (.slice (some ad) Ks.length c1) ∧ w'.cell? ⟨g1, 2, none⟩ = some (.slice A2 Vs.length c2)) ∧ (Below w.heap.size w w') ∧ (w'.heap[g1]? = some (.cells #[.bool true, .slice (some ad) Ks.length c1, .slice A2 Vs.length c2, .slice A3 Cs.length c3] 25 (0, 0))) ∧ (w'.heap[g2]? = some (.cells #[.bool false, .slice none 0 0, .slice none 0 0, .slice none 0 0] 25 (0, 0))) ∧ (w'.heap[g4]? = some (.cells #[.bool false, .slice none 0 0, .slice none 0 0, .slice none 0 0] 25 (0, 0))) ∧ (w'.heap[g7]? = some (.cells #[.bool true, .slice Avk k1_.length cvk, .slice Avv v1_.length cvv, .slice none 0 0] 25 (0, 0))) ∧ (Kd.R Kd.string 9 w' w.heap.size (fun _ => True) (.slice Avk k1_.length cvk) k1_) ∧ (Kd.R Kd.string 9 w' w.heap.size (fun _ => True) (.slice Avv v1_.length cvv) v1_) ∧ (Kd.R Kd.string 9 w' w.heap.size (fun _ => True) (.slice (s_.2).1 k2_.length (s_.2).2) k2_)) ?_ ?_
   rotate_left
   ·
    intro hJ5_6
    refine join_ (σ := Nat × Nat) 7 (ba 17 1983) (fun s_ => [(42, .slice (some ⟨s_.1, 0, none⟩) 1 1), (47, .slice (some ⟨s_.2, 0, none⟩) 1 1)]) (fun s_ w' => (w'.cell? ⟨g7, 0, none⟩ = some (.bool true) ∧ w'.cell? ⟨g7, 1, none⟩ = some (.slice Avk k1_.length cvk) ∧ w'.cell? ⟨g7, 2, none⟩ = some (.slice Avv v1_.length cvv) ∧ w'.cell? ⟨g7, 3, none⟩ = some (.slice none 0 0) ∧ w'.cell? ⟨g1, 1, none⟩ = some (.slice (some ad) Ks.length c1) ∧ w'.cell? ⟨g1, 2, none⟩ = some (.slice A2 Vs.length c2)) ∧ (Below w.heap.size w w') ∧ (w'.heap[g1]? = some (.cells #[.bool true, .slice (some ad) Ks.length c1, .slice A2 Vs.length c2, .slice A3 Cs.length c3] 25 (0, 0))) ∧ (w'.heap[g2]? = some (.cells #[.bool false, .slice none 0 0, .slice none 0 0, .slice none 0 0] 25 (0, 0))) ∧ (w'.heap[g4]? = some (.cells #[.bool false, .slice none 0 0, .slice none 0 0, .slice none 0 0] 25 (0, 0))) ∧ (w'.heap[g7]? = some (.cells #[.bool true, .slice Avk k1_.length cvk, .slice Avv v1_.length cvv, .slice none 0 0] 25 (0, 0))) ∧ (Kd.R Kd.string 9 w' w.heap.size (fun _ => True) (.slice Avk k1_.length cvk) k1_) ∧ (Kd.R Kd.string 9 w' w.heap.size (fun _ => True) (.slice Avv v1_.length cvv) v1_) ∧ (Kd.C (Kd.slice 9 Kd.string) w' (some ⟨s_.1, 0, none⟩) 1 [Ks.drop 4]) ∧ (Kd.C (Kd.slice 9 Kd.string) w' (some ⟨s_.2, 0, none⟩) 1 [Vs.drop 4])) ?_ ?_
    rotate_left
    ·
     intro hJ5_10
     refine join_ (σ := Nat) 8 (ba 17 959) (fun s_ => [(42, .slice (some ⟨s_, 0, none⟩) 1 1)]) (fun s_ w' => (w'.cell? ⟨g7, 0, none⟩ = some (.bool true) ∧ w'.cell? ⟨g7, 1, none⟩ = some (.slice Avk k1_.length cvk) ∧ w'.cell? ⟨g7, 2, none⟩ = some (.slice Avv v1_.length cvv) ∧ w'.cell? ⟨g7, 3, none⟩ = some (.slice none 0 0) ∧ w'.cell? ⟨g1, 1, none⟩ = some (.slice (some ad) Ks.length c1) ∧ w'.cell? ⟨g1, 2, none⟩ = some (.slice A2 Vs.length c2)) ∧ (Below w.heap.size w w') ∧ (w'.heap[g1]? = some (.cells #[.bool true, .slice (some ad) Ks.length c1, .slice A2 Vs.length c2, .slice A3 Cs.length c3] 25 (0, 0))) ∧ (w'.heap[g2]? = some (.cells #[.bool false, .slice none 0 0, .slice none 0 0, .slice none 0 0] 25 (0, 0))) ∧ (w'.heap[g4]? = some (.cells #[.bool false, .slice none 0 0, .slice none 0 0, .slice none 0 0] 25 (0, 0))) ∧ (w'.heap[g7]? = some (.cells #[.bool true, .slice Avk k1_.length cvk, .slice Avv v1_.length cvv, .slice none 0 0] 25 (0, 0))) ∧ (Kd.R Kd.string 9 w' w.heap.size (fun _ => True) (.slice Avk k1_.length cvk) k1_) ∧ (Kd.R Kd.string 9 w' w.heap.size (fun _ => True) (.slice Avv v1_.length cvv) v1_) ∧ (Kd.C (Kd.slice 9 Kd.string) w' (some ⟨s_, 0, none⟩) 1 [Ks.drop 4])) ?_ ?_
     rotate_left
     ·
      intro hJ5
      refine join_ (σ := Nat) 8 (ba 17 1951) (fun s_ => [(47, .slice (some ⟨s_, 0, none⟩) 1 1)]) (fun s_ w' => (w'.cell? ⟨g7, 0, none⟩ = some (.bool true) ∧ w'.cell? ⟨g7, 1, none⟩ = some (.slice Avk k1_.length cvk) ∧ w'.cell? ⟨g7, 2, none⟩ = some (.slice Avv v1_.length cvv) ∧ w'.cell? ⟨g7, 3, none⟩ = some (.slice none 0 0) ∧ w'.cell? ⟨g1, 1, none⟩ = some (.slice (some ad) Ks.length c1) ∧ w'.cell? ⟨g1, 2, none⟩ = some (.slice A2 Vs.length c2)) ∧ (Below w.heap.size w w') ∧ (w'.heap[g1]? = some (.cells #[.bool true, .slice (some ad) Ks.length c1, .slice A2 Vs.length c2, .slice A3 Cs.length c3] 25 (0, 0))) ∧ (w'.heap[g2]? = some (.cells #[.bool false, .slice none 0 0, .slice none 0 0, .slice none 0 0] 25 (0, 0))) ∧ (w'.heap[g4]? = some (.cells #[.bool false, .slice none 0 0, .slice none 0 0, .slice none 0 0] 25 (0, 0))) ∧ (w'.heap[g7]? = some (.cells #[.bool true, .slice Avk k1_.length cvk, .slice Avv v1_.length cvv, .slice none 0 0] 25 (0, 0))) ∧ (Kd.R Kd.string 9 w' w.heap.size (fun _ => True) (.slice Avk k1_.length cvk) k1_) ∧ (Kd.R Kd.string 9 w' w.heap.size (fun _ => True) (.slice Avv v1_.length cvv) v1_) ∧ (Kd.C (Kd.slice 9 Kd.string) w' (some ⟨s_, 0, none⟩) 1 [Vs.drop 4])) ?_ ?_
      rotate_left
      ·
       intro hJ10
       refine two_ (i := 5) (j := 10) (Ni := some 42) (Nj := some 47) (ba 17 959) (ba 17 1951) rfl rfl rfl rfl (by kernel_rfl) (by decide) (by decide) (fun K hK => ?_) (fun K hK => ?_)
       ·
        skip
        refine value_ (w1 := ?_) (v := ?_) (by rfl) rfl ?_ ?_
        rotate_left 2
        ·
         go_simp
         constructor
         ·
          rfl
         ·
          rfl
        refine hK.out _ _ ⟨((blk_cell (blk_alloc B7.out _) 0).trans rfl), ((blk_cell (blk_alloc B7.out _) 1).trans rfl), ((blk_cell (blk_alloc B7.out _) 2).trans rfl), ((blk_cell (blk_alloc B7.out _) 3).trans rfl), ((blk_cell (blk_alloc B1.out _) 1).trans rfl), ((blk_cell (blk_alloc B1.out _) 2).trans rfl)⟩ (fun hHeld => ?_)
        clear hK K
        refine norm_ (a' := ?_) ?_ ?_
        rotate_left
        ·
         show Act.put _ (some 42) _ = _
         simp only [Act.put, List.setIfInBounds_toArray, List.set_cons_zero, List.set_cons_succ, i64_w, i32_w]
         rfl
        exact norm_ (by first | (simp only [putAll, Act.put, List.setIfInBounds_toArray, List.set_cons_zero, List.set_cons_succ]; done) | (simp only [putAll, Act.put, List.setIfInBounds_toArray, List.set_cons_zero, List.set_cons_succ]; rfl)) (hJ5 (p6.heap.size) _ ⟨hHeld, below_alloc HB.out _, blk_alloc B1.out _, blk_alloc B2.out _, blk_alloc B4.out _, blk_alloc B7.out _, Kd.R_alloc HK.out _, Kd.R_alloc HV.out _, C_new_ss p6 (by rw [List.length_drop]) (by have := HC1.out; omega) (Kd.C_drop (Kd.C_below HR1.out HB.out) (by have := HL9.out; omega) HC1.out)⟩)
       ·
        skip
        refine value_ (w1 := ?_) (v := ?_) (by rfl) rfl ?_ ?_
        rotate_left 2
        ·
         go_simp
         constructor
         ·
          rfl
         ·
          rfl
        refine hK.out _ _ ⟨((blk_cell (blk_alloc B7.out _) 0).trans rfl), ((blk_cell (blk_alloc B7.out _) 1).trans rfl), ((blk_cell (blk_alloc B7.out _) 2).trans rfl), ((blk_cell (blk_alloc B7.out _) 3).trans rfl), ((blk_cell (blk_alloc B1.out _) 1).trans rfl), ((blk_cell (blk_alloc B1.out _) 2).trans rfl)⟩ (fun hHeld => ?_)
        clear hK K
        refine norm_ (a' := ?_) ?_ ?_
        rotate_left
        ·
         show Act.put _ (some 47) _ = _
         simp only [Act.put, List.setIfInBounds_toArray, List.set_cons_zero, List.set_cons_succ, i64_w, i32_w]
         rfl
        exact norm_ (by first | (simp only [putAll, Act.put, List.setIfInBounds_toArray, List.set_cons_zero, List.set_cons_succ]; done) | (simp only [putAll, Act.put, List.setIfInBounds_toArray, List.set_cons_zero, List.set_cons_succ]; rfl)) (hJ10 (p6.heap.size) _ ⟨hHeld, below_alloc HB.out _, blk_alloc B1.out _, blk_alloc B2.out _, blk_alloc B4.out _, blk_alloc B7.out _, Kd.R_alloc HK.out _, Kd.R_alloc HV.out _, C_new_ss p6 (by rw [List.length_drop]) (by have := HC2.out; omega) (Kd.C_drop (Kd.C_below HR2.out HB.out) HV4.out HC2.out)⟩)
      ·
       skip
       rintro gb p6_10 ⟨hS_, h0_, h1_, h2_, h3_, h4_, h5_, h6_, h7_⟩
       have HB : Aside0 (Below w.heap.size w p6_10) := ⟨h0_⟩
       have B1 : Aside0 (p6_10.heap[g1]? = some (.cells #[.bool true, .slice (some ad) Ks.length c1, .slice A2 Vs.length c2, .slice A3 Cs.length c3] 25 (0, 0))) := ⟨h1_⟩
       have B2 : Aside0 (p6_10.heap[g2]? = some (.cells #[.bool false, .slice none 0 0, .slice none 0 0, .slice none 0 0] 25 (0, 0))) := ⟨h2_⟩
       have B4 : Aside0 (p6_10.heap[g4]? = some (.cells #[.bool false, .slice none 0 0, .slice none 0 0, .slice none 0 0] 25 (0, 0))) := ⟨h3_⟩
       have B7 : Aside0 (p6_10.heap[g7]? = some (.cells #[.bool true, .slice Avk k1_.length cvk, .slice Avv v1_.length cvv, .slice none 0 0] 25 (0, 0))) := ⟨h4_⟩
       have HK : Aside0 (Kd.R Kd.string 9 p6_10 w.heap.size (fun _ => True) (.slice Avk k1_.length cvk) k1_) := ⟨h5_⟩
       have HV : Aside0 (Kd.R Kd.string 9 p6_10 w.heap.size (fun _ => True) (.slice Avv v1_.length cvv) v1_) := ⟨h6_⟩
       have BB : Aside0 (Kd.C (Kd.slice 9 Kd.string) p6_10 (some ⟨gb, 0, none⟩) 1 [Vs.drop 4]) := ⟨h7_⟩
       have hHeld : p6_10.cell? ⟨g7, 0, none⟩ = some (.bool true) ∧ p6_10.cell? ⟨g7, 1, none⟩ = some (.slice Avk k1_.length cvk) ∧ p6_10.cell? ⟨g7, 2, none⟩ = some (.slice Avv v1_.length cvv) ∧ p6_10.cell? ⟨g7, 3, none⟩ = some (.slice none 0 0) ∧ p6_10.cell? ⟨g1, 1, none⟩ = some (.slice (some ad) Ks.length c1) ∧ p6_10.cell? ⟨g1, 2, none⟩ = some (.slice A2 Vs.length c2) := hS_
       refine norm_ (a' := ?_) ?_ ?_
       rotate_left
       ·
        simp only [putAll, Act.put, List.setIfInBounds_toArray, List.set_cons_zero, List.set_cons_succ]
        rfl
       refine one_ (i := 5) (N := some 42) (ba 17 1983) rfl rfl (by kernel_rfl) (by decide) (fun K hK => ?_)
       refine value_ (w1 := ?_) (v := ?_) (by rfl) rfl ?_ ?_
       rotate_left 2
       ·
        go_simp
        constructor
        ·
         rfl
        ·
         rfl
       refine hK.out _ _ ⟨((blk_cell (blk_alloc B7.out _) 0).trans rfl), ((blk_cell (blk_alloc B7.out _) 1).trans rfl), ((blk_cell (blk_alloc B7.out _) 2).trans rfl), ((blk_cell (blk_alloc B7.out _) 3).trans rfl), ((blk_cell (blk_alloc B1.out _) 1).trans rfl), ((blk_cell (blk_alloc B1.out _) 2).trans rfl)⟩ (fun hHeld => ?_)
       clear hK K
       refine norm_ (a' := ?_) ?_ ?_
       rotate_left
       ·
        show Act.put _ (some 42) _ = _
        simp only [Act.put, List.setIfInBounds_toArray, List.set_cons_zero, List.set_cons_succ, i64_w, i32_w]
        rfl
       exact norm_ (by first | (simp only [putAll, Act.put, List.setIfInBounds_toArray, List.set_cons_zero, List.set_cons_succ]; done) | (simp only [putAll, Act.put, List.setIfInBounds_toArray, List.set_cons_zero, List.set_cons_succ]; rfl)) (hJ5_10 (p6_10.heap.size, gb) _ ⟨hHeld, below_alloc HB.out _, blk_alloc B1.out _, blk_alloc B2.out _, blk_alloc B4.out _, blk_alloc B7.out _, Kd.R_alloc HK.out _, Kd.R_alloc HV.out _, C_new_ss p6_10 (by rw [List.length_drop]) (by have := HC1.out; omega) (Kd.C_drop (Kd.C_below HR1.out HB.out) (by have := HL9.out; omega) HC1.out), Kd.C_alloc BB.out _⟩)
     ·
      skip
      rintro ga p6_5 ⟨hS_, h0_, h1_, h2_, h3_, h4_, h5_, h6_, h7_⟩
      have HB : Aside0 (Below w.heap.size w p6_5) := ⟨h0_⟩
      have B1 : Aside0 (p6_5.heap[g1]? = some (.cells #[.bool true, .slice (some ad) Ks.length c1, .slice A2 Vs.length c2, .slice A3 Cs.length c3] 25 (0, 0))) := ⟨h1_⟩
      have B2 : Aside0 (p6_5.heap[g2]? = some (.cells #[.bool false, .slice none 0 0, .slice none 0 0, .slice none 0 0] 25 (0, 0))) := ⟨h2_⟩
      have B4 : Aside0 (p6_5.heap[g4]? = some (.cells #[.bool false, .slice none 0 0, .slice none 0 0, .slice none 0 0] 25 (0, 0))) := ⟨h3_⟩
      have B7 : Aside0 (p6_5.heap[g7]? = some (.cells #[.bool true, .slice Avk k1_.length cvk, .slice Avv v1_.length cvv, .slice none 0 0] 25 (0, 0))) := ⟨h4_⟩
      have HK : Aside0 (Kd.R Kd.string 9 p6_5 w.heap.size (fun _ => True) (.slice Avk k1_.length cvk) k1_) := ⟨h5_⟩
      have HV : Aside0 (Kd.R Kd.string 9 p6_5 w.heap.size (fun _ => True) (.slice Avv v1_.length cvv) v1_) := ⟨h6_⟩
      have BA : Aside0 (Kd.C (Kd.slice 9 Kd.string) p6_5 (some ⟨ga, 0, none⟩) 1 [Ks.drop 4]) := ⟨h7_⟩
      have hHeld : p6_5.cell? ⟨g7, 0, none⟩ = some (.bool true) ∧ p6_5.cell? ⟨g7, 1, none⟩ = some (.slice Avk k1_.length cvk) ∧ p6_5.cell? ⟨g7, 2, none⟩ = some (.slice Avv v1_.length cvv) ∧ p6_5.cell? ⟨g7, 3, none⟩ = some (.slice none 0 0) ∧ p6_5.cell? ⟨g1, 1, none⟩ = some (.slice (some ad) Ks.length c1) ∧ p6_5.cell? ⟨g1, 2, none⟩ = some (.slice A2 Vs.length c2) := hS_
      refine norm_ (a' := ?_) ?_ ?_
      rotate_left
      ·
       simp only [putAll, Act.put, List.setIfInBounds_toArray, List.set_cons_zero, List.set_cons_succ]
       rfl
      refine two_ (i := 6) (j := 10) (Ni := some 43) (Nj := some 47) (ba 17 1023) (ba 17 1983) rfl rfl rfl rfl (by kernel_rfl) (by decide) (by decide) (fun K hK => ?_) (fun K hK => ?_)
      ·
       skip
       refine goes_ Try.func36 (by kernel_rfl) rfl #[.slice (some ⟨ga, 0, none⟩) ([Ks.drop 4] : List _).length 1] (by rfl) rfl rfl (by simp only [List.map_toArray, List.map_cons, List.map_nil]; rfl) ?_
       with_reducible refine (node_rows_string.calls k _ 1 [Ks.drop 4] k2_ _ BA.out (Nat.le_refl _) T3.out).mono ?_
       rintro e wc_ ⟨uk, rfl, ho_, hb⟩
       refine ⟨_, rfl, ?_⟩
       obtain ⟨Auk, cuk, e_⟩ := Kd.R_slice ho_
       subst e_
       have HK2 := am (Kd.R_lower ho_ (below_size HB.out))
       have B1 := am (blk_below B1.out hb)
       have B2 := am (blk_below B2.out hb)
       have B4 := am (blk_below B4.out hb)
       have B7 := am (blk_below B7.out hb)
       have HK := am (Kd.R_below HK.out hb)
       have HV := am (Kd.R_below HV.out hb)
       have HB := am (below_step HB.out hb)
       clear ho_ hb
       refine hK.out _ _ ⟨((blk_cell (B7.out) 0).trans rfl), ((blk_cell (B7.out) 1).trans rfl), ((blk_cell (B7.out) 2).trans rfl), ((blk_cell (B7.out) 3).trans rfl), ((blk_cell (B1.out) 1).trans rfl), ((blk_cell (B1.out) 2).trans rfl)⟩ (fun hHeld => ?_)
       clear hK K
       refine norm_ (a' := ?_) ?_ ?_
       rotate_left
       ·
        show Act.put _ (some 43) _ = _
        simp only [Act.put, List.setIfInBounds_toArray, List.set_cons_zero, List.set_cons_succ, i64_w, i32_w]
        rfl
       exact norm_ (by first | (simp only [putAll, Act.put, List.setIfInBounds_toArray, List.set_cons_zero, List.set_cons_succ]; done) | (simp only [putAll, Act.put, List.setIfInBounds_toArray, List.set_cons_zero, List.set_cons_succ]; rfl)) (hJ5_6 (ga, (Auk, cuk)) _ ⟨hHeld, HB.out, B1.out, B2.out, B4.out, B7.out, HK.out, HV.out, HK2.out⟩)
      ·
       skip
       refine value_ (w1 := ?_) (v := ?_) (by rfl) rfl ?_ ?_
       rotate_left 2
       ·
        go_simp
        constructor
        ·
         rfl
        ·
         rfl
       refine hK.out _ _ ⟨((blk_cell (blk_alloc B7.out _) 0).trans rfl), ((blk_cell (blk_alloc B7.out _) 1).trans rfl), ((blk_cell (blk_alloc B7.out _) 2).trans rfl), ((blk_cell (blk_alloc B7.out _) 3).trans rfl), ((blk_cell (blk_alloc B1.out _) 1).trans rfl), ((blk_cell (blk_alloc B1.out _) 2).trans rfl)⟩ (fun hHeld => ?_)
       clear hK K
       refine norm_ (a' := ?_) ?_ ?_
       rotate_left
       ·
        show Act.put _ (some 47) _ = _
        simp only [Act.put, List.setIfInBounds_toArray, List.set_cons_zero, List.set_cons_succ, i64_w, i32_w]
        rfl
       exact norm_ (by first | (simp only [putAll, Act.put, List.setIfInBounds_toArray, List.set_cons_zero, List.set_cons_succ]; done) | (simp only [putAll, Act.put, List.setIfInBounds_toArray, List.set_cons_zero, List.set_cons_succ]; rfl)) (hJ5_10 (ga, p6_5.heap.size) _ ⟨hHeld, below_alloc HB.out _, blk_alloc B1.out _, blk_alloc B2.out _, blk_alloc B4.out _, blk_alloc B7.out _, Kd.R_alloc HK.out _, Kd.R_alloc HV.out _, Kd.C_alloc BA.out _, C_new_ss p6_5 (by rw [List.length_drop]) (by have := HC2.out; omega) (Kd.C_drop (Kd.C_below HR2.out HB.out) HV4.out HC2.out)⟩)
    ·
     skip
     rintro ⟨ga, gb⟩ p6_5_10 ⟨hS_, h0_, h1_, h2_, h3_, h4_, h5_, h6_, h7_, h8_⟩
     have HB : Aside0 (Below w.heap.size w p6_5_10) := ⟨h0_⟩
     have B1 : Aside0 (p6_5_10.heap[g1]? = some (.cells #[.bool true, .slice (some ad) Ks.length c1, .slice A2 Vs.length c2, .slice A3 Cs.length c3] 25 (0, 0))) := ⟨h1_⟩
     have B2 : Aside0 (p6_5_10.heap[g2]? = some (.cells #[.bool false, .slice none 0 0, .slice none 0 0, .slice none 0 0] 25 (0, 0))) := ⟨h2_⟩
     have B4 : Aside0 (p6_5_10.heap[g4]? = some (.cells #[.bool false, .slice none 0 0, .slice none 0 0, .slice none 0 0] 25 (0, 0))) := ⟨h3_⟩
     have B7 : Aside0 (p6_5_10.heap[g7]? = some (.cells #[.bool true, .slice Avk k1_.length cvk, .slice Avv v1_.length cvv, .slice none 0 0] 25 (0, 0))) := ⟨h4_⟩
     have HK : Aside0 (Kd.R Kd.string 9 p6_5_10 w.heap.size (fun _ => True) (.slice Avk k1_.length cvk) k1_) := ⟨h5_⟩
     have HV : Aside0 (Kd.R Kd.string 9 p6_5_10 w.heap.size (fun _ => True) (.slice Avv v1_.length cvv) v1_) := ⟨h6_⟩
     have BA : Aside0 (Kd.C (Kd.slice 9 Kd.string) p6_5_10 (some ⟨ga, 0, none⟩) 1 [Ks.drop 4]) := ⟨h7_⟩
     have BB : Aside0 (Kd.C (Kd.slice 9 Kd.string) p6_5_10 (some ⟨gb, 0, none⟩) 1 [Vs.drop 4]) := ⟨h8_⟩
     have hHeld : p6_5_10.cell? ⟨g7, 0, none⟩ = some (.bool true) ∧ p6_5_10.cell? ⟨g7, 1, none⟩ = some (.slice Avk k1_.length cvk) ∧ p6_5_10.cell? ⟨g7, 2, none⟩ = some (.slice Avv v1_.length cvv) ∧ p6_5_10.cell? ⟨g7, 3, none⟩ = some (.slice none 0 0) ∧ p6_5_10.cell? ⟨g1, 1, none⟩ = some (.slice (some ad) Ks.length c1) ∧ p6_5_10.cell? ⟨g1, 2, none⟩ = some (.slice A2 Vs.length c2) := hS_
     refine norm_ (a' := ?_) ?_ ?_
     rotate_left
     ·
      simp only [putAll, Act.put, List.setIfInBounds_toArray, List.set_cons_zero, List.set_cons_succ]
      rfl
     refine one_ (i := 6) (N := some 43) (ba 17 2047) rfl rfl (by kernel_rfl) (by decide) (fun K hK => ?_)
     refine goes_ Try.func36 (by kernel_rfl) rfl #[.slice (some ⟨ga, 0, none⟩) ([Ks.drop 4] : List _).length 1] (by rfl) rfl rfl (by simp only [List.map_toArray, List.map_cons, List.map_nil]; rfl) ?_
     with_reducible refine (node_rows_string.calls k _ 1 [Ks.drop 4] k2_ _ BA.out (Nat.le_refl _) T3.out).mono ?_
     rintro e wc_ ⟨uk, rfl, ho_, hb⟩
     refine ⟨_, rfl, ?_⟩
     obtain ⟨Auk, cuk, e_⟩ := Kd.R_slice ho_
     subst e_
     have HK2 := am (Kd.R_lower ho_ (below_size HB.out))
     have B1 := am (blk_below B1.out hb)
     have B2 := am (blk_below B2.out hb)
     have B4 := am (blk_below B4.out hb)
     have B7 := am (blk_below B7.out hb)
     have HK := am (Kd.R_below HK.out hb)
     have HV := am (Kd.R_below HV.out hb)
     have BB := am (Kd.C_below BB.out hb)
     have HB := am (below_step HB.out hb)
     clear ho_ hb
     refine hK.out _ _ ⟨((blk_cell (B7.out) 0).trans rfl), ((blk_cell (B7.out) 1).trans rfl), ((blk_cell (B7.out) 2).trans rfl), ((blk_cell (B7.out) 3).trans rfl), ((blk_cell (B1.out) 1).trans rfl), ((blk_cell (B1.out) 2).trans rfl)⟩ (fun hHeld => ?_)
     clear hK K
     refine norm_ (a' := ?_) ?_ ?_
     rotate_left
     ·
      show Act.put _ (some 43) _ = _
      simp only [Act.put, List.setIfInBounds_toArray, List.set_cons_zero, List.set_cons_succ, i64_w, i32_w]
      rfl
     exact norm_ (by first | (simp only [putAll, Act.put, List.setIfInBounds_toArray, List.set_cons_zero, List.set_cons_succ]; done) | (simp only [putAll, Act.put, List.setIfInBounds_toArray, List.set_cons_zero, List.set_cons_succ]; rfl)) (hJ5_6_10 (ga, (Auk, cuk), gb) _ ⟨hHeld, HB.out, B1.out, B2.out, B4.out, B7.out, HK.out, HV.out, HK2.out, BB.out⟩)
   ·
    skip
    rintro ⟨ga, ⟨Auk, cuk⟩⟩ p6_5_6 ⟨hS_, h0_, h1_, h2_, h3_, h4_, h5_, h6_, h7_⟩
    have HB : Aside0 (Below w.heap.size w p6_5_6) := ⟨h0_⟩
    have B1 : Aside0 (p6_5_6.heap[g1]? = some (.cells #[.bool true, .slice (some ad) Ks.length c1, .slice A2 Vs.length c2, .slice A3 Cs.length c3] 25 (0, 0))) := ⟨h1_⟩
    have B2 : Aside0 (p6_5_6.heap[g2]? = some (.cells #[.bool false, .slice none 0 0, .slice none 0 0, .slice none 0 0] 25 (0, 0))) := ⟨h2_⟩
    have B4 : Aside0 (p6_5_6.heap[g4]? = some (.cells #[.bool false, .slice none 0 0, .slice none 0 0, .slice none 0 0] 25 (0, 0))) := ⟨h3_⟩
    have B7 : Aside0 (p6_5_6.heap[g7]? = some (.cells #[.bool true, .slice Avk k1_.length cvk, .slice Avv v1_.length cvv, .slice none 0 0] 25 (0, 0))) := ⟨h4_⟩
    have HK : Aside0 (Kd.R Kd.string 9 p6_5_6 w.heap.size (fun _ => True) (.slice Avk k1_.length cvk) k1_) := ⟨h5_⟩
    have HV : Aside0 (Kd.R Kd.string 9 p6_5_6 w.heap.size (fun _ => True) (.slice Avv v1_.length cvv) v1_) := ⟨h6_⟩
    have HK2 : Aside0 (Kd.R Kd.string 9 p6_5_6 w.heap.size (fun _ => True) (.slice Auk k2_.length cuk) k2_) := ⟨h7_⟩
    have hHeld : p6_5_6.cell? ⟨g7, 0, none⟩ = some (.bool true) ∧ p6_5_6.cell? ⟨g7, 1, none⟩ = some (.slice Avk k1_.length cvk) ∧ p6_5_6.cell? ⟨g7, 2, none⟩ = some (.slice Avv v1_.length cvv) ∧ p6_5_6.cell? ⟨g7, 3, none⟩ = some (.slice none 0 0) ∧ p6_5_6.cell? ⟨g1, 1, none⟩ = some (.slice (some ad) Ks.length c1) ∧ p6_5_6.cell? ⟨g1, 2, none⟩ = some (.slice A2 Vs.length c2) := hS_
    refine norm_ (a' := ?_) ?_ ?_
    rotate_left
    ·
     simp only [putAll, Act.put, List.setIfInBounds_toArray, List.set_cons_zero, List.set_cons_succ]
     rfl
    refine one_ (i := 10) (N := some 47) (ba 17 2047) rfl rfl (by kernel_rfl) (by decide) (fun K hK => ?_)
    refine value_ (w1 := ?_) (v := ?_) (by rfl) rfl ?_ ?_
    rotate_left 2
    ·
     go_simp
     constructor
     ·
      rfl
     ·
      rfl
    refine hK.out _ _ ⟨((blk_cell (blk_alloc B7.out _) 0).trans rfl), ((blk_cell (blk_alloc B7.out _) 1).trans rfl), ((blk_cell (blk_alloc B7.out _) 2).trans rfl), ((blk_cell (blk_alloc B7.out _) 3).trans rfl), ((blk_cell (blk_alloc B1.out _) 1).trans rfl), ((blk_cell (blk_alloc B1.out _) 2).trans rfl)⟩ (fun hHeld => ?_)
    clear hK K
    refine norm_ (a' := ?_) ?_ ?_
    rotate_left
    ·
     show Act.put _ (some 47) _ = _
     simp only [Act.put, List.setIfInBounds_toArray, List.set_cons_zero, List.set_cons_succ, i64_w, i32_w]
     rfl
    exact norm_ (by first | (simp only [putAll, Act.put, List.setIfInBounds_toArray, List.set_cons_zero, List.set_cons_succ]; done) | (simp only [putAll, Act.put, List.setIfInBounds_toArray, List.set_cons_zero, List.set_cons_succ]; rfl)) (hJ5_6_10 (ga, (Auk, cuk), p6_5_6.heap.size) _ ⟨hHeld, below_alloc HB.out _, blk_alloc B1.out _, blk_alloc B2.out _, blk_alloc B4.out _, blk_alloc B7.out _, Kd.R_alloc HK.out _, Kd.R_alloc HV.out _, Kd.R_alloc HK2.out _, C_new_ss p6_5_6 (by rw [List.length_drop]) (by have := HC2.out; omega) (Kd.C_drop (Kd.C_below HR2.out HB.out) HV4.out HC2.out)⟩)
  rintro ⟨ga, ⟨Auk, cuk⟩, gb⟩ p6_5_6_10 ⟨hS_, h0_, h1_, h2_, h3_, h4_, h5_, h6_, h7_, h8_⟩
  have HB : Aside0 (Below w.heap.size w p6_5_6_10) := ⟨h0_⟩
  have B1 : Aside0 (p6_5_6_10.heap[g1]? = some (.cells #[.bool true, .slice (some ad) Ks.length c1, .slice A2 Vs.length c2, .slice A3 Cs.length c3] 25 (0, 0))) := ⟨h1_⟩
  have B2 : Aside0 (p6_5_6_10.heap[g2]? = some (.cells #[.bool false, .slice none 0 0, .slice none 0 0, .slice none 0 0] 25 (0, 0))) := ⟨h2_⟩
  have B4 : Aside0 (p6_5_6_10.heap[g4]? = some (.cells #[.bool false, .slice none 0 0, .slice none 0 0, .slice none 0 0] 25 (0, 0))) := ⟨h3_⟩
  have B7 : Aside0 (p6_5_6_10.heap[g7]? = some (.cells #[.bool true, .slice Avk k1_.length cvk, .slice Avv v1_.length cvv, .slice none 0 0] 25 (0, 0))) := ⟨h4_⟩
  have HK : Aside0 (Kd.R Kd.string 9 p6_5_6_10 w.heap.size (fun _ => True) (.slice Avk k1_.length cvk) k1_) := ⟨h5_⟩
  have HV : Aside0 (Kd.R Kd.string 9 p6_5_6_10 w.heap.size (fun _ => True) (.slice Avv v1_.length cvv) v1_) := ⟨h6_⟩
  have HK2 : Aside0 (Kd.R Kd.string 9 p6_5_6_10 w.heap.size (fun _ => True) (.slice Auk k2_.length cuk) k2_) := ⟨h7_⟩
  have BB : Aside0 (Kd.C (Kd.slice 9 Kd.string) p6_5_6_10 (some ⟨gb, 0, none⟩) 1 [Vs.drop 4]) := ⟨h8_⟩
  have hHeld : p6_5_6_10.cell? ⟨g7, 0, none⟩ = some (.bool true) ∧ p6_5_6_10.cell? ⟨g7, 1, none⟩ = some (.slice Avk k1_.length cvk) ∧ p6_5_6_10.cell? ⟨g7, 2, none⟩ = some (.slice Avv v1_.length cvv) ∧ p6_5_6_10.cell? ⟨g7, 3, none⟩ = some (.slice none 0 0) ∧ p6_5_6_10.cell? ⟨g1, 1, none⟩ = some (.slice (some ad) Ks.length c1) ∧ p6_5_6_10.cell? ⟨g1, 2, none⟩ = some (.slice A2 Vs.length c2) := hS_
  refine norm_ (a' := ?_) ?_ ?_
  rotate_left
  ·
   simp only [putAll, Act.put, List.setIfInBounds_toArray, List.set_cons_zero, List.set_cons_succ]
   rfl
  refine one_ (i := 11) (N := some 48) (ba 17 4095) rfl rfl (by kernel_rfl) (by decide) (fun K hK => ?_)
  refine goes_ Try.func36 (by kernel_rfl) rfl #[.slice (some ⟨gb, 0, none⟩) ([Vs.drop 4] : List _).length 1] (by rfl) rfl rfl (by simp only [List.map_toArray, List.map_cons, List.map_nil]; rfl) ?_
  with_reducible refine (node_rows_string.calls k _ 1 [Vs.drop 4] v2_ _ BB.out (Nat.le_refl _) T4.out).mono ?_
  rintro e wc_ ⟨uv, rfl, ho_, hb⟩
  refine ⟨_, rfl, ?_⟩
  obtain ⟨Auv, cuv, e_⟩ := Kd.R_slice ho_
  subst e_
  have HV2 := am (Kd.R_lower ho_ (below_size HB.out))
  have B1 := am (blk_below B1.out hb)
  have B2 := am (blk_below B2.out hb)
  have B4 := am (blk_below B4.out hb)
  have B7 := am (blk_below B7.out hb)
  have HK := am (Kd.R_below HK.out hb)
  have HV := am (Kd.R_below HV.out hb)
  have HK2 := am (Kd.R_below HK2.out hb)
  have HB := am (below_step HB.out hb)
  clear ho_ hb
  refine hK.out _ _ ⟨((blk_cell (B7.out) 0).trans rfl), ((blk_cell (B7.out) 1).trans rfl), ((blk_cell (B7.out) 2).trans rfl), ((blk_cell (B7.out) 3).trans rfl), ((blk_cell (B1.out) 1).trans rfl), ((blk_cell (B1.out) 2).trans rfl)⟩ (fun hHeld => ?_)
  clear hK K
  refine norm_ (a' := ?_) ?_ ?_
  rotate_left
  ·
   show Act.put _ (some 48) _ = _
   simp only [Act.put, List.setIfInBounds_toArray, List.set_cons_zero, List.set_cons_succ, i64_w, i32_w]
   rfl
  refine pure_ (i := 12) (N := some 49) (v := ?_) (a' := ?_) (ba 17 8191) rfl rfl (by kernel_rfl) (fun _ _ _ h => h) (Or.inl ⟨by rfl, ?_⟩) ?_ ?_
  rotate_left
  ·
   intro w'
   go_simp
   with_reducible rfl
  rotate_left
  ·
   simp only [Act.put, List.setIfInBounds_toArray, List.set_cons_zero, List.set_cons_succ, i64_w, i32_w]
   rfl
  refine last_ (i := 13) (N := none) (ba 17 16383) rfl rfl (by kernel_rfl) (by decide) (fun K hK => ?_)
  have z0 : wc_.cell? ⟨g2, 0, none⟩ = some (.bool false) := bc B2.out
  have z1 : wc_.cell? ⟨g2, 1, none⟩ = some (.slice none 0 0) := bc B2.out
  have z2 : wc_.cell? ⟨g2, 2, none⟩ = some (.slice none 0 0) := bc B2.out
  have z3 : wc_.cell? ⟨g2, 3, none⟩ = some (.slice none 0 0) := bc B2.out
  obtain ⟨zf0, zf1, zf2, zf3⟩ := z4 B2.out
  refine skip_ (w1 := ?_) (by rfl) rfl ?_ ?_
  rotate_left
  ·
   go_simp
   rfl
  refine hK.out _ _ ?_
  clear hK K
  refine pure_ (i := 14) (N := some 3) (v := ?_) (a' := ?_) (ba 17 32767) rfl rfl (by kernel_rfl) (fun _ _ _ h => h) (Or.inl ⟨by rfl, ?_⟩) ?_ ?_
  rotate_left
  ·
   intro w'
   go_simp
   with_reducible rfl
  rotate_left
  ·
   simp only [Act.put, List.setIfInBounds_toArray, List.set_cons_zero, List.set_cons_succ, i64_w, i32_w]
   rfl
  refine last_ (i := 15) (N := none) (ba 17 65535) rfl rfl (by kernel_rfl) (by decide) (fun K hK => ?_)
  skip
  have y0 : wc_.cell? ⟨g4, 0, none⟩ = some (.bool false) := bc B4.out
  have y1 : wc_.cell? ⟨g4, 1, none⟩ = some (.slice none 0 0) := bc B4.out
  have y2 : wc_.cell? ⟨g4, 2, none⟩ = some (.slice none 0 0) := bc B4.out
  have y3 : wc_.cell? ⟨g4, 3, none⟩ = some (.slice none 0 0) := bc B4.out
  obtain ⟨yf0, yf1, yf2, yf3⟩ := z4 B4.out
  refine skip_ (w1 := ?_) (by rfl) rfl ?_ ?_
  rotate_left
  ·
   go_simp
   rfl
  refine hK.out _ _ ?_
  clear hK K
  refine pure_ (i := 16) (N := some 5) (v := ?_) (a' := ?_) (ba 17 131071) rfl rfl (by kernel_rfl) (fun _ _ _ h => h) (Or.inl ⟨by rfl, ?_⟩) ?_ ?_
  rotate_left
  ·
   intro w'
   go_simp
   with_reducible rfl
  rotate_left
  ·
   simp only [Act.put, List.setIfInBounds_toArray, List.set_cons_zero, List.set_cons_succ, i64_w, i32_w]
   rfl
  refine done_ (by kernel_rfl) ?_
  try go_wp2
  all_goals (refine bodyPost_ret (results_list (rs := [.cell 2 25, .tmp 3, .cell 4 25, .tmp 5]) rfl (by simp) (.cell g2 25 #[.bool true, .slice Avk k1_.length cvk, .slice Avv v1_.length cvv, .slice none 0 0] (0, 0) _ rfl (set4_far (set4_put B2.out) N24.out) Try.underlying25 rfl (by kernel_rfl) (.tmp (.cell g4 25 #[.bool true, .slice Auk k2_.length cuk, .slice Auv v2_.length cuv, .slice none 0 0] (0, 0) _ rfl (set4_put (set4_far B4.out N42.out)) Try.underlying25 rfl (by kernel_rfl) (.tmp .nil))))) rfl ?_; exact ⟨_, _, _, _, _, _, rfl, set4_R (set4_R HK.out B2.out (by decide)) (set4_far B4.out N42.out) (by decide), set4_R (set4_R HV.out B2.out (by decide)) (set4_far B4.out N42.out) (by decide), Kd.R_nil _ _ _ _ _, set4_R (set4_R HK2.out B2.out (by decide)) (set4_far B4.out N42.out) (by decide), set4_R (set4_R HV2.out B2.out (by decide)) (set4_far B4.out N42.out) (by decide), Kd.R_nil _ _ _ _ _, set4_below (set4_below HB.out G2.out) G4.out⟩)
end Go.Proofs.Ytmnkabdaapiikaa
