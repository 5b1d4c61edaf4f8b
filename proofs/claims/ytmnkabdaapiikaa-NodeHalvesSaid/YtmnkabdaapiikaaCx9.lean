/- The law NodeHalves: what the machine's call comes to, where the law holds. -/
import Derived.Test.YtmnkabdaapiikaaXFew7
import Derived.Test.YtmnkabdaapiikaaXJoin
import Derived.Test.YtmnkabdaapiikaaCx2
import Derived.Test.YtmnkabdaapiikaaCx6
namespace Go.Proofs.Ytmnkabdaapiikaa.C
open Go.RowKit Go.Proofs.Ytmnkabdaapiikaa Go.Proofs.YtmnkabdaapiikaaW.PrintWords Go.Proofs.YtmnkabdaapiikaaW.PrintLast Go.Proofs.YtmnkabdaapiikaaW.PrintMore
set_option linter.unusedVariables false
set_option linter.unusedSimpArgs false
theorem C_take30 {α : Type} {d : Kd α} {w : World} {A : Option Addr} {xs : List α} (h : Kd.C d w A xs.length xs) : Kd.C d w A (xs.take 30).length (xs.take 30) := by
  by_cases c : 30 ≤ xs.length
  · exact Kd.C_take h c
  · rw [List.take_of_length_le (by omega)]
    exact h
theorem wrap64_at7 (n : Int) (h : -9223372036854775808 ≤ n ∧ n ≤ 9223372036854775807) : wrap64 n = n := by unfold wrap64; omega
theorem rdOf_mem7 {xs : List ByteArray} {i : Int} (h0 : 0 ≤ i) (h : i < (xs.length : Int)) : rdOf ByteArray.empty xs i ∈ xs := by
  unfold rdOf
  have hl : i.toNat < xs.length := by omega
  rw [List.getD_eq_getElem?_getD, List.getElem?_eq_getElem hl]
  exact List.getElem_mem hl
def penelopelaw07_NodeHalves.f (k : Nat) (lf : Bool) (Ks Vs : List ByteArray) (Cs : List Int) : Option Bool :=
  (node_Cut.f k lf (Ks.take 30) (Vs.take 30) (Cs.take 30)).bind fun t => if t.2.2.2.2.2.2.2.2.2 = 0 then
    ((node_Join.f k t.1 t.2.1 t.2.2.1 t.2.2.2.1 t.2.2.2.2.1 t.2.2.2.2.2.1 t.2.2.2.2.2.2.1 t.2.2.2.2.2.2.2.1 t.2.2.2.2.2.2.2.2.1).bind fun m => if m.2.2.2.2 = 0 then
      ((peneloperef07_Like.f k m.1 m.2.1 m.2.2.1 m.2.2.2.1 lf (Ks.take 30) (Vs.take 30) (Cs.take 30)).bind fun x => if x = true then
        ((node_Right.f k t.1 t.2.1 t.2.2.1 t.2.2.2.1 false).bind fun y => if y = true then
          ((node_Right.f k t.2.2.2.2.2.1 t.2.2.2.2.2.2.1 t.2.2.2.2.2.2.2.1 t.2.2.2.2.2.2.2.2.1 false).bind fun z => if z = true then
            (if t.1 = lf ∧ t.2.2.2.2.2.1 = lf ∧ t.2.1.length ≤ 100 ∧ t.2.2.2.2.2.2.1.length ≤ 100 ∧ (∀ x ∈ t.2.1, Op.bytesLess x.toList t.2.2.2.2.1.toList = true) ∧ (∀ x ∈ t.2.2.2.2.2.2.1, Op.bytesLess x.toList t.2.2.2.2.1.toList = false) then
              ((penelopelaw07_alive.f k).bind fun b => if b = true then some true else none) else none) else none) else none) else none) else none)
  else ((penelopelaw07_alive.f k).bind fun b => if b = true then (if t.2.2.2.2.1 = ⟨#[]⟩ then some true else none) else none)
set_option maxHeartbeats 8000000 in
set_option maxRecDepth 100000 in
theorem penelopelaw07_NodeHalves.calls (k : Nat) (lf : Bool) (A1 : Option Addr) (c1 : Nat) (Ks : List ByteArray) (A2 : Option Addr) (c2 : Nat) (Vs : List ByteArray) (A3 : Option Addr) (c3 : Nat) (Cs : List Int) (r : Bool) (w : World)
    (hr1 : Kd.C Kd.string w A1 Ks.length Ks) (hc1 : Ks.length ≤ c1) (hr2 : Kd.C Kd.string w A2 Vs.length Vs) (hc2 : Vs.length ≤ c2) (hr3 : Kd.C (Kd.int .i64) w A3 Cs.length Cs) (hc3 : Cs.length ≤ c3) (h : penelopelaw07_NodeHalves.f k lf Ks Vs Cs = some r) :
    Calls Try.prog 7 #[.agg #[.bool lf, .slice A1 Ks.length c1, .slice A2 Vs.length c2, .slice A3 Cs.length c3]] w fun e w' => e = .returned (.bool r) ∧ Below w.heap.size w w' := by
  have hu25 := Try.underlying25
  have HT1 := Aside0.mk (C_take30 hr1)
  have HT2 := Aside0.mk (C_take30 hr2)
  have HT3 := Aside0.mk (C_take30 hr3)
  have HL1 := Aside0.mk (show (Ks.take 30).length ≤ c1 by rw [List.length_take]; omega)
  have HL2 := Aside0.mk (show (Vs.take 30).length ≤ c2 by rw [List.length_take]; omega)
  have HL3 := Aside0.mk (show (Cs.take 30).length ≤ c3 by rw [List.length_take]; omega)
  have F7 := Aside0.mk (fun W => few7.calls lf A1 c1 Ks A2 c2 Vs A3 c3 Cs W hc1 hc2 hc3)
  have HB := Aside0.mk (Below.refl w.heap.size w)
  clear hr1 hc1 hr2 hc2 hr3 hc3
  unfold penelopelaw07_NodeHalves.f at h
  generalize Ks.take 30 = K3 at *
  generalize Vs.take 30 = V3 at *
  generalize Cs.take 30 = C3 at *
  replace h := Option.bind_eq_some_iff.1 h
  obtain ⟨⟨a1, a2, a3, a4, key, b1, b2, b3, b4, e0⟩, qc, h⟩ := h
  have TC := Aside0.mk qc
  clear qc
  dsimp only at h
  go_enter Try.func7, Try.ntmps7
  go_upto_region 1 with ((with_reducible refine gate_dst (N := 1) rfl ?_); refine box_event ?hg (N := 1) ?hd (cs := #[.bool lf, .slice A1 Ks.length c1, .slice A2 Vs.length c2, .slice A3 Cs.length c3]) (t := 25) ?hr ?_; (case hd => rfl); (case hg => rfl); (case hr => first | (go_simp; done) | (go_simp; rfl)); intro g1 hg w1 hbox hb; have Gg1 := Aside0.mk (show w.heap.size ≤ g1 by rw [hg]; exact below_size (by repeat (first | (with_reducible first | exact HB.out | apply below_alloc | apply pw_below_drewN | apply below_drew1) | exact HB.out))); have XHB := Aside0.mk (below_step (by repeat (first | (with_reducible first | exact HB.out | apply below_alloc | apply pw_below_drewN | apply below_drew1) | exact HB.out)) hb); clear hb; clear HB; have HB := XHB; clear XHB; have B1 := Aside0.mk hbox; clear hbox hg; have g1_0 : w1.cell? ⟨g1, 0, none⟩ = some (.bool lf) := (blk_cell B1.out 0).trans rfl; have g1_1 : w1.cell? ⟨g1, 1, none⟩ = some (.slice A1 Ks.length c1) := (blk_cell B1.out 1).trans rfl; have g1_2 : w1.cell? ⟨g1, 2, none⟩ = some (.slice A2 Vs.length c2) := (blk_cell B1.out 2).trans rfl; have g1_3 : w1.cell? ⟨g1, 3, none⟩ = some (.slice A3 Cs.length c3) := (blk_cell B1.out 3).trans rfl)
  go_upto_region 2 with (go_at_call 10; refine (F7.out _).mono ?_; rintro e w2 ⟨rfl, hb⟩; have XB1 := Aside0.mk (blk_below (o := .cells #[.bool lf, .slice A1 Ks.length c1, .slice A2 Vs.length c2, .slice A3 Cs.length c3] 25 (0, 0)) (by (with_reducible repeat (first | refine blk_drewN ?_ _ | refine blk_drew ?_ | refine blk_alloc ?_ _)); exact B1.out) hb); have XHB := Aside0.mk (below_step (by repeat (first | (with_reducible first | exact HB.out | apply below_alloc | apply pw_below_drewN | apply below_drew1) | exact HB.out)) hb); clear hb; clear B1 HB; have B1 := XB1; have HB := XHB; clear XB1 XHB; have g1_0 : w2.cell? ⟨g1, 0, none⟩ = some (.bool lf) := (blk_cell B1.out 0).trans rfl; have g1_1 : w2.cell? ⟨g1, 1, none⟩ = some (.slice A1 Ks.length c1) := (blk_cell B1.out 1).trans rfl; have g1_2 : w2.cell? ⟨g1, 2, none⟩ = some (.slice A2 Vs.length c2) := (blk_cell B1.out 2).trans rfl; have g1_3 : w2.cell? ⟨g1, 3, none⟩ = some (.slice A3 Cs.length c3) := (blk_cell B1.out 3).trans rfl; have g1f0 := blk_frozen B1.out 0; have g1f1 := blk_frozen B1.out 1; have g1f2 := blk_frozen B1.out 2; have g1f3 := blk_frozen B1.out 3)
  try clear g1_0
  try clear g1_1
  try clear g1_2
  try clear g1_3
  try clear g1f0
  try clear g1f1
  try clear g1f2
  try clear g1f3
  have XB1 := Aside0.mk (show ((((w2.setCell ⟨g1, 0, none⟩ (.bool lf)).setCell ⟨g1, 1, none⟩ (.slice A1 K3.length c1)).setCell ⟨g1, 2, none⟩ (.slice A2 V3.length c2)).setCell ⟨g1, 3, none⟩ (.slice A3 C3.length c3)).heap[g1]? = some (.cells #[.bool lf, .slice A1 K3.length c1, .slice A2 V3.length c2, .slice A3 C3.length c3] 25 (0, 0)) from set4_put (B1.out))
  have XHB := Aside0.mk (show Below w.heap.size w ((((w2.setCell ⟨g1, 0, none⟩ (.bool lf)).setCell ⟨g1, 1, none⟩ (.slice A1 K3.length c1)).setCell ⟨g1, 2, none⟩ (.slice A2 V3.length c2)).setCell ⟨g1, 3, none⟩ (.slice A3 C3.length c3)) from set4_below (HB.out) Gg1.out)
  clear B1 HB
  have B1 := XB1
  have HB := XHB
  clear XB1 XHB
  generalize (((w2.setCell ⟨g1, 0, none⟩ (.bool lf)).setCell ⟨g1, 1, none⟩ (.slice A1 K3.length c1)).setCell ⟨g1, 2, none⟩ (.slice A2 V3.length c2)).setCell ⟨g1, 3, none⟩ (.slice A3 C3.length c3) = q2 at *
  have g1_0 : q2.cell? ⟨g1, 0, none⟩ = some (.bool lf) := (blk_cell B1.out 0).trans rfl
  have g1_1 : q2.cell? ⟨g1, 1, none⟩ = some (.slice A1 K3.length c1) := (blk_cell B1.out 1).trans rfl
  have g1_2 : q2.cell? ⟨g1, 2, none⟩ = some (.slice A2 V3.length c2) := (blk_cell B1.out 2).trans rfl
  have g1_3 : q2.cell? ⟨g1, 3, none⟩ = some (.slice A3 C3.length c3) := (blk_cell B1.out 3).trans rfl
  go_upto_region 3 with (first | (go_at_call 24; refine (node_Cut.calls k lf A1 c1 K3 A2 c2 V3 A3 c3 C3 a1 a2 a3 a4 key b1 b2 b3 b4 e0 _ (by repeat (first | exact (Kd.C_below HT1.out HB.out) | (with_reducible refine Kd.C_alloc ?_ _) | (with_reducible refine Kd.C_drewN ?_ _) | (with_reducible refine Kd.C_drew ?_))) HL1.out (by repeat (first | exact (Kd.C_below HT2.out HB.out) | (with_reducible refine Kd.C_alloc ?_ _) | (with_reducible refine Kd.C_drewN ?_ _) | (with_reducible refine Kd.C_drew ?_))) HL2.out (by repeat (first | exact (Kd.C_below HT3.out HB.out) | (with_reducible refine Kd.C_alloc ?_ _) | (with_reducible refine Kd.C_drewN ?_ _) | (with_reducible refine Kd.C_drew ?_))) HL3.out TC.out).mono ?_; rintro e w3 ⟨v1, v2, v3, u1, u2, u3, rfl, h1, h2, h3, h4, h5, h6, hb⟩; obtain ⟨Aa2, ca2, e_⟩ := Kd.R_slice h1; subst e_; have Ha2 := Aside0.mk (Kd.R_lower h1 (below_size (by repeat (first | (with_reducible first | exact HB.out | apply below_alloc | apply pw_below_drewN | apply below_drew1) | exact HB.out)))); obtain ⟨Aa3, ca3, e_⟩ := Kd.R_slice h2; subst e_; have Ha3 := Aside0.mk (Kd.R_lower h2 (below_size (by repeat (first | (with_reducible first | exact HB.out | apply below_alloc | apply pw_below_drewN | apply below_drew1) | exact HB.out)))); obtain ⟨Aa4, ca4, e_⟩ := Kd.R_slice h3; subst e_; have Ha4 := Aside0.mk (Kd.R_lower h3 (below_size (by repeat (first | (with_reducible first | exact HB.out | apply below_alloc | apply pw_below_drewN | apply below_drew1) | exact HB.out)))); obtain ⟨Ab2, cb2, e_⟩ := Kd.R_slice h4; subst e_; have Hb2 := Aside0.mk (Kd.R_lower h4 (below_size (by repeat (first | (with_reducible first | exact HB.out | apply below_alloc | apply pw_below_drewN | apply below_drew1) | exact HB.out)))); obtain ⟨Ab3, cb3, e_⟩ := Kd.R_slice h5; subst e_; have Hb3 := Aside0.mk (Kd.R_lower h5 (below_size (by repeat (first | (with_reducible first | exact HB.out | apply below_alloc | apply pw_below_drewN | apply below_drew1) | exact HB.out)))); obtain ⟨Ab4, cb4, e_⟩ := Kd.R_slice h6; subst e_; have Hb4 := Aside0.mk (Kd.R_lower h6 (below_size (by repeat (first | (with_reducible first | exact HB.out | apply below_alloc | apply pw_below_drewN | apply below_drew1) | exact HB.out)))); skip; clear h1 h2 h3 h4 h5 h6; have XB1 := Aside0.mk (blk_below (o := .cells #[.bool lf, .slice A1 K3.length c1, .slice A2 V3.length c2, .slice A3 C3.length c3] 25 (0, 0)) (by (with_reducible repeat (first | refine blk_drewN ?_ _ | refine blk_drew ?_ | refine blk_alloc ?_ _)); exact B1.out) hb); have XHB := Aside0.mk (below_step (by repeat (first | (with_reducible first | exact HB.out | apply below_alloc | apply pw_below_drewN | apply below_drew1) | exact HB.out)) hb); clear hb; clear B1 HB; have B1 := XB1; have HB := XHB; clear XB1 XHB) | ((with_reducible refine gate_dst (N := 3) rfl ?_); refine box_event ?hg (N := 3) ?hd (cs := #[.bool false, .slice none 0 0, .slice none 0 0, .slice none 0 0]) (t := 25) ?hr ?_; (case hd => rfl); (case hg => rfl); (case hr => first | (go_simp; done) | (go_simp; rfl)); intro g3 hg w4 hbox hb; have Gg3 := Aside0.mk (show w.heap.size ≤ g3 by rw [hg]; exact below_size (by repeat (first | (with_reducible first | exact HB.out | apply below_alloc | apply pw_below_drewN | apply below_drew1) | exact HB.out))); have Ng1_g3 := Aside0.mk (show g1 ≠ g3 by rw [hg]; exact Nat.ne_of_lt (blk_lt (o := .cells #[.bool lf, .slice A1 K3.length c1, .slice A2 V3.length c2, .slice A3 C3.length c3] 25 (0, 0)) (by (with_reducible repeat (first | refine blk_drewN ?_ _ | refine blk_drew ?_ | refine blk_alloc ?_ _)); exact B1.out))); have XB1 := Aside0.mk (blk_below (o := .cells #[.bool lf, .slice A1 K3.length c1, .slice A2 V3.length c2, .slice A3 C3.length c3] 25 (0, 0)) (by (with_reducible repeat (first | refine blk_drewN ?_ _ | refine blk_drew ?_ | refine blk_alloc ?_ _)); exact B1.out) hb); have XHa2 := Aside0.mk (Kd.R_below (by (with_reducible repeat (first | apply Kd.R_alloc | apply Kd.R_drewN | apply Kd.R_drew)); exact Ha2.out) hb); have XHa3 := Aside0.mk (Kd.R_below (by (with_reducible repeat (first | apply Kd.R_alloc | apply Kd.R_drewN | apply Kd.R_drew)); exact Ha3.out) hb); have XHa4 := Aside0.mk (Kd.R_below (by (with_reducible repeat (first | apply Kd.R_alloc | apply Kd.R_drewN | apply Kd.R_drew)); exact Ha4.out) hb); have XHb2 := Aside0.mk (Kd.R_below (by (with_reducible repeat (first | apply Kd.R_alloc | apply Kd.R_drewN | apply Kd.R_drew)); exact Hb2.out) hb); have XHb3 := Aside0.mk (Kd.R_below (by (with_reducible repeat (first | apply Kd.R_alloc | apply Kd.R_drewN | apply Kd.R_drew)); exact Hb3.out) hb); have XHb4 := Aside0.mk (Kd.R_below (by (with_reducible repeat (first | apply Kd.R_alloc | apply Kd.R_drewN | apply Kd.R_drew)); exact Hb4.out) hb); have XHB := Aside0.mk (below_step (by repeat (first | (with_reducible first | exact HB.out | apply below_alloc | apply pw_below_drewN | apply below_drew1) | exact HB.out)) hb); clear hb; clear B1 Ha2 Ha3 Ha4 Hb2 Hb3 Hb4 HB; have B1 := XB1; have Ha2 := XHa2; have Ha3 := XHa3; have Ha4 := XHa4; have Hb2 := XHb2; have Hb3 := XHb3; have Hb4 := XHb4; have HB := XHB; clear XB1 XHa2 XHa3 XHa4 XHb2 XHb3 XHb4 XHB; have B3 := Aside0.mk hbox; clear hbox hg) | ((with_reducible refine gate_dst (N := 5) rfl ?_); refine box_event ?hg (N := 5) ?hd (cs := #[.bool false, .slice none 0 0, .slice none 0 0, .slice none 0 0]) (t := 25) ?hr ?_; (case hd => rfl); (case hg => rfl); (case hr => first | (go_simp; done) | (go_simp; rfl)); intro g5 hg w5 hbox hb; have Gg5 := Aside0.mk (show w.heap.size ≤ g5 by rw [hg]; exact below_size (by repeat (first | (with_reducible first | exact HB.out | apply below_alloc | apply pw_below_drewN | apply below_drew1) | exact HB.out))); have Ng1_g5 := Aside0.mk (show g1 ≠ g5 by rw [hg]; exact Nat.ne_of_lt (blk_lt (o := .cells #[.bool lf, .slice A1 K3.length c1, .slice A2 V3.length c2, .slice A3 C3.length c3] 25 (0, 0)) (by (with_reducible repeat (first | refine blk_drewN ?_ _ | refine blk_drew ?_ | refine blk_alloc ?_ _)); exact B1.out))); have Ng3_g5 := Aside0.mk (show g3 ≠ g5 by rw [hg]; exact Nat.ne_of_lt (blk_lt (o := .cells #[.bool false, .slice none 0 0, .slice none 0 0, .slice none 0 0] 25 (0, 0)) (by (with_reducible repeat (first | refine blk_drewN ?_ _ | refine blk_drew ?_ | refine blk_alloc ?_ _)); exact B3.out))); have XB1 := Aside0.mk (blk_below (o := .cells #[.bool lf, .slice A1 K3.length c1, .slice A2 V3.length c2, .slice A3 C3.length c3] 25 (0, 0)) (by (with_reducible repeat (first | refine blk_drewN ?_ _ | refine blk_drew ?_ | refine blk_alloc ?_ _)); exact B1.out) hb); have XB3 := Aside0.mk (blk_below (o := .cells #[.bool false, .slice none 0 0, .slice none 0 0, .slice none 0 0] 25 (0, 0)) (by (with_reducible repeat (first | refine blk_drewN ?_ _ | refine blk_drew ?_ | refine blk_alloc ?_ _)); exact B3.out) hb); have XHa2 := Aside0.mk (Kd.R_below (by (with_reducible repeat (first | apply Kd.R_alloc | apply Kd.R_drewN | apply Kd.R_drew)); exact Ha2.out) hb); have XHa3 := Aside0.mk (Kd.R_below (by (with_reducible repeat (first | apply Kd.R_alloc | apply Kd.R_drewN | apply Kd.R_drew)); exact Ha3.out) hb); have XHa4 := Aside0.mk (Kd.R_below (by (with_reducible repeat (first | apply Kd.R_alloc | apply Kd.R_drewN | apply Kd.R_drew)); exact Ha4.out) hb); have XHb2 := Aside0.mk (Kd.R_below (by (with_reducible repeat (first | apply Kd.R_alloc | apply Kd.R_drewN | apply Kd.R_drew)); exact Hb2.out) hb); have XHb3 := Aside0.mk (Kd.R_below (by (with_reducible repeat (first | apply Kd.R_alloc | apply Kd.R_drewN | apply Kd.R_drew)); exact Hb3.out) hb); have XHb4 := Aside0.mk (Kd.R_below (by (with_reducible repeat (first | apply Kd.R_alloc | apply Kd.R_drewN | apply Kd.R_drew)); exact Hb4.out) hb); have XHB := Aside0.mk (below_step (by repeat (first | (with_reducible first | exact HB.out | apply below_alloc | apply pw_below_drewN | apply below_drew1) | exact HB.out)) hb); clear hb; clear B1 B3 Ha2 Ha3 Ha4 Hb2 Hb3 Hb4 HB; have B1 := XB1; have B3 := XB3; have Ha2 := XHa2; have Ha3 := XHa3; have Ha4 := XHa4; have Hb2 := XHb2; have Hb3 := XHb3; have Hb4 := XHb4; have HB := XHB; clear XB1 XB3 XHa2 XHa3 XHa4 XHb2 XHb3 XHb4 XHB; have B5 := Aside0.mk hbox; clear hbox hg; have g1_0 : w5.cell? ⟨g1, 0, none⟩ = some (.bool lf) := (blk_cell B1.out 0).trans rfl; have g1_1 : w5.cell? ⟨g1, 1, none⟩ = some (.slice A1 K3.length c1) := (blk_cell B1.out 1).trans rfl; have g1_2 : w5.cell? ⟨g1, 2, none⟩ = some (.slice A2 V3.length c2) := (blk_cell B1.out 2).trans rfl; have g1_3 : w5.cell? ⟨g1, 3, none⟩ = some (.slice A3 C3.length c3) := (blk_cell B1.out 3).trans rfl; have g3_0 : w5.cell? ⟨g3, 0, none⟩ = some (.bool false) := (blk_cell B3.out 0).trans rfl; have g3_1 : w5.cell? ⟨g3, 1, none⟩ = some (.slice none 0 0) := (blk_cell B3.out 1).trans rfl; have g3_2 : w5.cell? ⟨g3, 2, none⟩ = some (.slice none 0 0) := (blk_cell B3.out 2).trans rfl; have g3_3 : w5.cell? ⟨g3, 3, none⟩ = some (.slice none 0 0) := (blk_cell B3.out 3).trans rfl; have g3f0 := blk_frozen B3.out 0; have g3f1 := blk_frozen B3.out 1; have g3f2 := blk_frozen B3.out 2; have g3f3 := blk_frozen B3.out 3; have g5_0 : w5.cell? ⟨g5, 0, none⟩ = some (.bool false) := (blk_cell B5.out 0).trans rfl; have g5_1 : w5.cell? ⟨g5, 1, none⟩ = some (.slice none 0 0) := (blk_cell B5.out 1).trans rfl; have g5_2 : w5.cell? ⟨g5, 2, none⟩ = some (.slice none 0 0) := (blk_cell B5.out 2).trans rfl; have g5_3 : w5.cell? ⟨g5, 3, none⟩ = some (.slice none 0 0) := (blk_cell B5.out 3).trans rfl; have g5f0 := blk_frozen B5.out 0; have g5f1 := blk_frozen B5.out 1; have g5f2 := blk_frozen B5.out 2; have g5f3 := blk_frozen B5.out 3; have n35 := Ng3_g5.out; have n53 := Ng3_g5.out.symm))
  clear n35 n53
  try clear g1_0
  try clear g1_1
  try clear g1_2
  try clear g1_3
  try clear g3_0
  try clear g3_1
  try clear g3_2
  try clear g3_3
  try clear g5_0
  try clear g5_1
  try clear g5_2
  try clear g5_3
  try clear g1f0
  try clear g1f1
  try clear g1f2
  try clear g1f3
  try clear g3f0
  try clear g3f1
  try clear g3f2
  try clear g3f3
  try clear g5f0
  try clear g5f1
  try clear g5f2
  try clear g5f3
  have XB1 := Aside0.mk (show ((((((((w5.setCell ⟨g3, 0, none⟩ (.bool a1)).setCell ⟨g3, 1, none⟩ (.slice Aa2 a2.length ca2)).setCell ⟨g3, 2, none⟩ (.slice Aa3 a3.length ca3)).setCell ⟨g3, 3, none⟩ (.slice Aa4 a4.length ca4)).setCell ⟨g5, 0, none⟩ (.bool b1)).setCell ⟨g5, 1, none⟩ (.slice Ab2 b2.length cb2)).setCell ⟨g5, 2, none⟩ (.slice Ab3 b3.length cb3)).setCell ⟨g5, 3, none⟩ (.slice Ab4 b4.length cb4)).heap[g1]? = some (.cells #[.bool lf, .slice A1 K3.length c1, .slice A2 V3.length c2, .slice A3 C3.length c3] 25 (0, 0)) from set4_far (set4_far (B1.out) Ng1_g3.out) Ng1_g5.out)
  have XB3 := Aside0.mk (show ((((((((w5.setCell ⟨g3, 0, none⟩ (.bool a1)).setCell ⟨g3, 1, none⟩ (.slice Aa2 a2.length ca2)).setCell ⟨g3, 2, none⟩ (.slice Aa3 a3.length ca3)).setCell ⟨g3, 3, none⟩ (.slice Aa4 a4.length ca4)).setCell ⟨g5, 0, none⟩ (.bool b1)).setCell ⟨g5, 1, none⟩ (.slice Ab2 b2.length cb2)).setCell ⟨g5, 2, none⟩ (.slice Ab3 b3.length cb3)).setCell ⟨g5, 3, none⟩ (.slice Ab4 b4.length cb4)).heap[g3]? = some (.cells #[.bool a1, .slice Aa2 a2.length ca2, .slice Aa3 a3.length ca3, .slice Aa4 a4.length ca4] 25 (0, 0)) from set4_far (set4_put (B3.out)) Ng3_g5.out)
  have XB5 := Aside0.mk (show ((((((((w5.setCell ⟨g3, 0, none⟩ (.bool a1)).setCell ⟨g3, 1, none⟩ (.slice Aa2 a2.length ca2)).setCell ⟨g3, 2, none⟩ (.slice Aa3 a3.length ca3)).setCell ⟨g3, 3, none⟩ (.slice Aa4 a4.length ca4)).setCell ⟨g5, 0, none⟩ (.bool b1)).setCell ⟨g5, 1, none⟩ (.slice Ab2 b2.length cb2)).setCell ⟨g5, 2, none⟩ (.slice Ab3 b3.length cb3)).setCell ⟨g5, 3, none⟩ (.slice Ab4 b4.length cb4)).heap[g5]? = some (.cells #[.bool b1, .slice Ab2 b2.length cb2, .slice Ab3 b3.length cb3, .slice Ab4 b4.length cb4] 25 (0, 0)) from set4_put (set4_far (B5.out) Ng3_g5.out.symm))
  have XHa2 := Aside0.mk (show Kd.R Kd.string 9 ((((((((w5.setCell ⟨g3, 0, none⟩ (.bool a1)).setCell ⟨g3, 1, none⟩ (.slice Aa2 a2.length ca2)).setCell ⟨g3, 2, none⟩ (.slice Aa3 a3.length ca3)).setCell ⟨g3, 3, none⟩ (.slice Aa4 a4.length ca4)).setCell ⟨g5, 0, none⟩ (.bool b1)).setCell ⟨g5, 1, none⟩ (.slice Ab2 b2.length cb2)).setCell ⟨g5, 2, none⟩ (.slice Ab3 b3.length cb3)).setCell ⟨g5, 3, none⟩ (.slice Ab4 b4.length cb4)) w.heap.size (fun _ => True) (.slice Aa2 a2.length ca2) a2 from set4_R (set4_R (Ha2.out) B3.out (by decide)) (set4_far B5.out Ng3_g5.out.symm) (by decide))
  have XHa3 := Aside0.mk (show Kd.R Kd.string 9 ((((((((w5.setCell ⟨g3, 0, none⟩ (.bool a1)).setCell ⟨g3, 1, none⟩ (.slice Aa2 a2.length ca2)).setCell ⟨g3, 2, none⟩ (.slice Aa3 a3.length ca3)).setCell ⟨g3, 3, none⟩ (.slice Aa4 a4.length ca4)).setCell ⟨g5, 0, none⟩ (.bool b1)).setCell ⟨g5, 1, none⟩ (.slice Ab2 b2.length cb2)).setCell ⟨g5, 2, none⟩ (.slice Ab3 b3.length cb3)).setCell ⟨g5, 3, none⟩ (.slice Ab4 b4.length cb4)) w.heap.size (fun _ => True) (.slice Aa3 a3.length ca3) a3 from set4_R (set4_R (Ha3.out) B3.out (by decide)) (set4_far B5.out Ng3_g5.out.symm) (by decide))
  have XHa4 := Aside0.mk (show Kd.R (Kd.int .i64) 3 ((((((((w5.setCell ⟨g3, 0, none⟩ (.bool a1)).setCell ⟨g3, 1, none⟩ (.slice Aa2 a2.length ca2)).setCell ⟨g3, 2, none⟩ (.slice Aa3 a3.length ca3)).setCell ⟨g3, 3, none⟩ (.slice Aa4 a4.length ca4)).setCell ⟨g5, 0, none⟩ (.bool b1)).setCell ⟨g5, 1, none⟩ (.slice Ab2 b2.length cb2)).setCell ⟨g5, 2, none⟩ (.slice Ab3 b3.length cb3)).setCell ⟨g5, 3, none⟩ (.slice Ab4 b4.length cb4)) w.heap.size (fun _ => True) (.slice Aa4 a4.length ca4) a4 from set4_R (set4_R (Ha4.out) B3.out (by decide)) (set4_far B5.out Ng3_g5.out.symm) (by decide))
  have XHb2 := Aside0.mk (show Kd.R Kd.string 9 ((((((((w5.setCell ⟨g3, 0, none⟩ (.bool a1)).setCell ⟨g3, 1, none⟩ (.slice Aa2 a2.length ca2)).setCell ⟨g3, 2, none⟩ (.slice Aa3 a3.length ca3)).setCell ⟨g3, 3, none⟩ (.slice Aa4 a4.length ca4)).setCell ⟨g5, 0, none⟩ (.bool b1)).setCell ⟨g5, 1, none⟩ (.slice Ab2 b2.length cb2)).setCell ⟨g5, 2, none⟩ (.slice Ab3 b3.length cb3)).setCell ⟨g5, 3, none⟩ (.slice Ab4 b4.length cb4)) w.heap.size (fun _ => True) (.slice Ab2 b2.length cb2) b2 from set4_R (set4_R (Hb2.out) B3.out (by decide)) (set4_far B5.out Ng3_g5.out.symm) (by decide))
  have XHb3 := Aside0.mk (show Kd.R Kd.string 9 ((((((((w5.setCell ⟨g3, 0, none⟩ (.bool a1)).setCell ⟨g3, 1, none⟩ (.slice Aa2 a2.length ca2)).setCell ⟨g3, 2, none⟩ (.slice Aa3 a3.length ca3)).setCell ⟨g3, 3, none⟩ (.slice Aa4 a4.length ca4)).setCell ⟨g5, 0, none⟩ (.bool b1)).setCell ⟨g5, 1, none⟩ (.slice Ab2 b2.length cb2)).setCell ⟨g5, 2, none⟩ (.slice Ab3 b3.length cb3)).setCell ⟨g5, 3, none⟩ (.slice Ab4 b4.length cb4)) w.heap.size (fun _ => True) (.slice Ab3 b3.length cb3) b3 from set4_R (set4_R (Hb3.out) B3.out (by decide)) (set4_far B5.out Ng3_g5.out.symm) (by decide))
  have XHb4 := Aside0.mk (show Kd.R (Kd.int .i64) 3 ((((((((w5.setCell ⟨g3, 0, none⟩ (.bool a1)).setCell ⟨g3, 1, none⟩ (.slice Aa2 a2.length ca2)).setCell ⟨g3, 2, none⟩ (.slice Aa3 a3.length ca3)).setCell ⟨g3, 3, none⟩ (.slice Aa4 a4.length ca4)).setCell ⟨g5, 0, none⟩ (.bool b1)).setCell ⟨g5, 1, none⟩ (.slice Ab2 b2.length cb2)).setCell ⟨g5, 2, none⟩ (.slice Ab3 b3.length cb3)).setCell ⟨g5, 3, none⟩ (.slice Ab4 b4.length cb4)) w.heap.size (fun _ => True) (.slice Ab4 b4.length cb4) b4 from set4_R (set4_R (Hb4.out) B3.out (by decide)) (set4_far B5.out Ng3_g5.out.symm) (by decide))
  have XHB := Aside0.mk (show Below w.heap.size w ((((((((w5.setCell ⟨g3, 0, none⟩ (.bool a1)).setCell ⟨g3, 1, none⟩ (.slice Aa2 a2.length ca2)).setCell ⟨g3, 2, none⟩ (.slice Aa3 a3.length ca3)).setCell ⟨g3, 3, none⟩ (.slice Aa4 a4.length ca4)).setCell ⟨g5, 0, none⟩ (.bool b1)).setCell ⟨g5, 1, none⟩ (.slice Ab2 b2.length cb2)).setCell ⟨g5, 2, none⟩ (.slice Ab3 b3.length cb3)).setCell ⟨g5, 3, none⟩ (.slice Ab4 b4.length cb4)) from set4_below (set4_below (HB.out) Gg3.out) Gg5.out)
  clear B1 B3 B5 Ha2 Ha3 Ha4 Hb2 Hb3 Hb4 HB
  have B1 := XB1
  have B3 := XB3
  have B5 := XB5
  have Ha2 := XHa2
  have Ha3 := XHa3
  have Ha4 := XHa4
  have Hb2 := XHb2
  have Hb3 := XHb3
  have Hb4 := XHb4
  have HB := XHB
  clear XB1 XB3 XB5 XHa2 XHa3 XHa4 XHb2 XHb3 XHb4 XHB
  generalize (((((((w5.setCell ⟨g3, 0, none⟩ (.bool a1)).setCell ⟨g3, 1, none⟩ (.slice Aa2 a2.length ca2)).setCell ⟨g3, 2, none⟩ (.slice Aa3 a3.length ca3)).setCell ⟨g3, 3, none⟩ (.slice Aa4 a4.length ca4)).setCell ⟨g5, 0, none⟩ (.bool b1)).setCell ⟨g5, 1, none⟩ (.slice Ab2 b2.length cb2)).setCell ⟨g5, 2, none⟩ (.slice Ab3 b3.length cb3)).setCell ⟨g5, 3, none⟩ (.slice Ab4 b4.length cb4) = q3 at *
  by_cases he : e0 = 0
  case neg =>
    rw [if_neg he] at h
    replace h := Option.bind_eq_some_iff.1 h
    obtain ⟨t_, qa, h⟩ := h
    cases t_
    case false => cases h
    rw [if_pos rfl] at h
    by_cases hk0 : key = ⟨#[]⟩
    case neg => rw [if_neg hk0] at h; cases h
    rw [if_pos hk0] at h
    subst hk0
    obtain rfl := Option.some.inj h
    have TA := Aside0.mk qa
    clear qa
    have he1 : (e0 != 0) = true := by simpa using he
    have he2 : (e0 == 0) = false := by simpa using he
    have he3 : decide (e0 = 0) = false := by simpa using he
    go_wp2_with (go_at_call 13; refine (penelopelaw07_alive.calls k true _ TA.out).mono ?_; rintro e w6 ⟨rfl, hb⟩; have XB1 := Aside0.mk (blk_below (o := .cells #[.bool lf, .slice A1 K3.length c1, .slice A2 V3.length c2, .slice A3 C3.length c3] 25 (0, 0)) (by (with_reducible repeat (first | refine blk_drewN ?_ _ | refine blk_drew ?_ | refine blk_alloc ?_ _)); exact B1.out) hb); have XB3 := Aside0.mk (blk_below (o := .cells #[.bool a1, .slice Aa2 a2.length ca2, .slice Aa3 a3.length ca3, .slice Aa4 a4.length ca4] 25 (0, 0)) (by (with_reducible repeat (first | refine blk_drewN ?_ _ | refine blk_drew ?_ | refine blk_alloc ?_ _)); exact B3.out) hb); have XB5 := Aside0.mk (blk_below (o := .cells #[.bool b1, .slice Ab2 b2.length cb2, .slice Ab3 b3.length cb3, .slice Ab4 b4.length cb4] 25 (0, 0)) (by (with_reducible repeat (first | refine blk_drewN ?_ _ | refine blk_drew ?_ | refine blk_alloc ?_ _)); exact B5.out) hb); have XHa2 := Aside0.mk (Kd.R_below (by (with_reducible repeat (first | apply Kd.R_alloc | apply Kd.R_drewN | apply Kd.R_drew)); exact Ha2.out) hb); have XHa3 := Aside0.mk (Kd.R_below (by (with_reducible repeat (first | apply Kd.R_alloc | apply Kd.R_drewN | apply Kd.R_drew)); exact Ha3.out) hb); have XHa4 := Aside0.mk (Kd.R_below (by (with_reducible repeat (first | apply Kd.R_alloc | apply Kd.R_drewN | apply Kd.R_drew)); exact Ha4.out) hb); have XHb2 := Aside0.mk (Kd.R_below (by (with_reducible repeat (first | apply Kd.R_alloc | apply Kd.R_drewN | apply Kd.R_drew)); exact Hb2.out) hb); have XHb3 := Aside0.mk (Kd.R_below (by (with_reducible repeat (first | apply Kd.R_alloc | apply Kd.R_drewN | apply Kd.R_drew)); exact Hb3.out) hb); have XHb4 := Aside0.mk (Kd.R_below (by (with_reducible repeat (first | apply Kd.R_alloc | apply Kd.R_drewN | apply Kd.R_drew)); exact Hb4.out) hb); have XHB := Aside0.mk (below_step (by repeat (first | (with_reducible first | exact HB.out | apply below_alloc | apply pw_below_drewN | apply below_drew1) | exact HB.out)) hb); clear hb; clear B1 B3 B5 Ha2 Ha3 Ha4 Hb2 Hb3 Hb4 HB; have B1 := XB1; have B3 := XB3; have B5 := XB5; have Ha2 := XHa2; have Ha3 := XHa3; have Ha4 := XHa4; have Hb2 := XHb2; have Hb3 := XHb3; have Hb4 := XHb4; have HB := XHB; clear XB1 XB3 XB5 XHa2 XHa3 XHa4 XHb2 XHb3 XHb4 XHB)
    go_ret
    exact ⟨rfl, HB.out⟩
  subst he
  rw [if_pos rfl] at h
  replace h := Option.bind_eq_some_iff.1 h
  obtain ⟨⟨m1, m2, m3, m4, f0⟩, qj, h⟩ := h
  have TJ := Aside0.mk qj
  clear qj
  dsimp only at h
  by_cases hf : f0 = 0
  case neg => rw [if_neg hf] at h; cases h
  rw [if_pos hf] at h
  subst hf
  replace h := Option.bind_eq_some_iff.1 h
  obtain ⟨x_, qt, h⟩ := h
  have TL := Aside0.mk qt
  clear qt
  cases x_
  case false => cases h
  rw [if_pos rfl] at h
  replace h := Option.bind_eq_some_iff.1 h
  obtain ⟨y_, qt, h⟩ := h
  have TR := Aside0.mk qt
  clear qt
  cases y_
  case false => cases h
  rw [if_pos rfl] at h
  replace h := Option.bind_eq_some_iff.1 h
  obtain ⟨z_, qt, h⟩ := h
  have TS := Aside0.mk qt
  clear qt
  cases z_
  case false => cases h
  rw [if_pos rfl] at h
  by_cases hz : (a1 = lf ∧ b1 = lf ∧ a2.length ≤ 100 ∧ b2.length ≤ 100 ∧ (∀ x ∈ a2, Op.bytesLess x.toList key.toList = true) ∧ (∀ x ∈ b2, Op.bytesLess x.toList key.toList = false))
  case neg => rw [if_neg hz] at h; cases h
  rw [if_pos hz] at h
  obtain ⟨ea, eb, hla, hlb, hlow, hhigh⟩ := hz
  have HLA := Aside0.mk hla
  have HLB := Aside0.mk hlb
  have LOW := Aside0.mk hlow
  have HIGH := Aside0.mk hhigh
  clear hla hlb hlow hhigh
  replace h := Option.bind_eq_some_iff.1 h
  obtain ⟨t_, qa, h⟩ := h
  have TA := Aside0.mk qa
  clear qa
  cases t_
  case false => cases h
  obtain rfl := Option.some.inj h
  clear h
  replace ea := ea.symm
  subst ea
  replace eb := eb.symm
  subst eb
  have g1_0 : q3.cell? ⟨g1, 0, none⟩ = some (.bool lf) := (blk_cell B1.out 0).trans rfl
  have g1_1 : q3.cell? ⟨g1, 1, none⟩ = some (.slice A1 K3.length c1) := (blk_cell B1.out 1).trans rfl
  have g1_2 : q3.cell? ⟨g1, 2, none⟩ = some (.slice A2 V3.length c2) := (blk_cell B1.out 2).trans rfl
  have g1_3 : q3.cell? ⟨g1, 3, none⟩ = some (.slice A3 C3.length c3) := (blk_cell B1.out 3).trans rfl
  have g3_0 : q3.cell? ⟨g3, 0, none⟩ = some (.bool lf) := (blk_cell B3.out 0).trans rfl
  have g3_1 : q3.cell? ⟨g3, 1, none⟩ = some (.slice Aa2 a2.length ca2) := (blk_cell B3.out 1).trans rfl
  have g3_2 : q3.cell? ⟨g3, 2, none⟩ = some (.slice Aa3 a3.length ca3) := (blk_cell B3.out 2).trans rfl
  have g3_3 : q3.cell? ⟨g3, 3, none⟩ = some (.slice Aa4 a4.length ca4) := (blk_cell B3.out 3).trans rfl
  have g5_0 : q3.cell? ⟨g5, 0, none⟩ = some (.bool lf) := (blk_cell B5.out 0).trans rfl
  have g5_1 : q3.cell? ⟨g5, 1, none⟩ = some (.slice Ab2 b2.length cb2) := (blk_cell B5.out 1).trans rfl
  have g5_2 : q3.cell? ⟨g5, 2, none⟩ = some (.slice Ab3 b3.length cb3) := (blk_cell B5.out 2).trans rfl
  have g5_3 : q3.cell? ⟨g5, 3, none⟩ = some (.slice Ab4 b4.length cb4) := (blk_cell B5.out 3).trans rfl
  go_upto_region 6 with (first | (go_at_call 21; refine (node_Join.calls k _ _ _ a2 _ _ a3 _ _ a4 key _ _ _ b2 _ _ b3 _ _ b4 m1 m2 m3 m4 0 _ (by repeat (first | exact (Kd.R_reads' Ha2.out).2.2 | (with_reducible refine Kd.C_alloc ?_ _) | (with_reducible refine Kd.C_drewN ?_ _) | (with_reducible refine Kd.C_drew ?_))) (Kd.R_reads' Ha2.out).2.1 (by repeat (first | exact (Kd.R_reads' Ha3.out).2.2 | (with_reducible refine Kd.C_alloc ?_ _) | (with_reducible refine Kd.C_drewN ?_ _) | (with_reducible refine Kd.C_drew ?_))) (Kd.R_reads' Ha3.out).2.1 (by repeat (first | exact (Kd.R_reads' Ha4.out).2.2 | (with_reducible refine Kd.C_alloc ?_ _) | (with_reducible refine Kd.C_drewN ?_ _) | (with_reducible refine Kd.C_drew ?_))) (Kd.R_reads' Ha4.out).2.1 (by repeat (first | exact (Kd.R_reads' Hb2.out).2.2 | (with_reducible refine Kd.C_alloc ?_ _) | (with_reducible refine Kd.C_drewN ?_ _) | (with_reducible refine Kd.C_drew ?_))) (Kd.R_reads' Hb2.out).2.1 (by repeat (first | exact (Kd.R_reads' Hb3.out).2.2 | (with_reducible refine Kd.C_alloc ?_ _) | (with_reducible refine Kd.C_drewN ?_ _) | (with_reducible refine Kd.C_drew ?_))) (Kd.R_reads' Hb3.out).2.1 (by repeat (first | exact (Kd.R_reads' Hb4.out).2.2 | (with_reducible refine Kd.C_alloc ?_ _) | (with_reducible refine Kd.C_drewN ?_ _) | (with_reducible refine Kd.C_drew ?_))) (Kd.R_reads' Hb4.out).2.1 TJ.out).mono ?_; rintro e w6 ⟨v1, v2, v3, rfl, h1, h2, h3, hb⟩; obtain ⟨Am2, cm2, e_⟩ := Kd.R_slice h1; subst e_; have Hm2 := Aside0.mk (Kd.R_lower h1 (below_size (by repeat (first | (with_reducible first | exact HB.out | apply below_alloc | apply pw_below_drewN | apply below_drew1) | exact HB.out)))); obtain ⟨Am3, cm3, e_⟩ := Kd.R_slice h2; subst e_; have Hm3 := Aside0.mk (Kd.R_lower h2 (below_size (by repeat (first | (with_reducible first | exact HB.out | apply below_alloc | apply pw_below_drewN | apply below_drew1) | exact HB.out)))); obtain ⟨Am4, cm4, e_⟩ := Kd.R_slice h3; subst e_; have Hm4 := Aside0.mk (Kd.R_lower h3 (below_size (by repeat (first | (with_reducible first | exact HB.out | apply below_alloc | apply pw_below_drewN | apply below_drew1) | exact HB.out)))); clear h1 h2 h3; have XB1 := Aside0.mk (blk_below (o := .cells #[.bool lf, .slice A1 K3.length c1, .slice A2 V3.length c2, .slice A3 C3.length c3] 25 (0, 0)) (by (with_reducible repeat (first | refine blk_drewN ?_ _ | refine blk_drew ?_ | refine blk_alloc ?_ _)); exact B1.out) hb); have XB3 := Aside0.mk (blk_below (o := .cells #[.bool lf, .slice Aa2 a2.length ca2, .slice Aa3 a3.length ca3, .slice Aa4 a4.length ca4] 25 (0, 0)) (by (with_reducible repeat (first | refine blk_drewN ?_ _ | refine blk_drew ?_ | refine blk_alloc ?_ _)); exact B3.out) hb); have XB5 := Aside0.mk (blk_below (o := .cells #[.bool lf, .slice Ab2 b2.length cb2, .slice Ab3 b3.length cb3, .slice Ab4 b4.length cb4] 25 (0, 0)) (by (with_reducible repeat (first | refine blk_drewN ?_ _ | refine blk_drew ?_ | refine blk_alloc ?_ _)); exact B5.out) hb); have XHa2 := Aside0.mk (Kd.R_below (by (with_reducible repeat (first | apply Kd.R_alloc | apply Kd.R_drewN | apply Kd.R_drew)); exact Ha2.out) hb); have XHa3 := Aside0.mk (Kd.R_below (by (with_reducible repeat (first | apply Kd.R_alloc | apply Kd.R_drewN | apply Kd.R_drew)); exact Ha3.out) hb); have XHa4 := Aside0.mk (Kd.R_below (by (with_reducible repeat (first | apply Kd.R_alloc | apply Kd.R_drewN | apply Kd.R_drew)); exact Ha4.out) hb); have XHb2 := Aside0.mk (Kd.R_below (by (with_reducible repeat (first | apply Kd.R_alloc | apply Kd.R_drewN | apply Kd.R_drew)); exact Hb2.out) hb); have XHb3 := Aside0.mk (Kd.R_below (by (with_reducible repeat (first | apply Kd.R_alloc | apply Kd.R_drewN | apply Kd.R_drew)); exact Hb3.out) hb); have XHb4 := Aside0.mk (Kd.R_below (by (with_reducible repeat (first | apply Kd.R_alloc | apply Kd.R_drewN | apply Kd.R_drew)); exact Hb4.out) hb); have XHB := Aside0.mk (below_step (by repeat (first | (with_reducible first | exact HB.out | apply below_alloc | apply pw_below_drewN | apply below_drew1) | exact HB.out)) hb); clear hb; clear B1 B3 B5 Ha2 Ha3 Ha4 Hb2 Hb3 Hb4 HB; have B1 := XB1; have B3 := XB3; have B5 := XB5; have Ha2 := XHa2; have Ha3 := XHa3; have Ha4 := XHa4; have Hb2 := XHb2; have Hb3 := XHb3; have Hb4 := XHb4; have HB := XHB; clear XB1 XB3 XB5 XHa2 XHa3 XHa4 XHb2 XHb3 XHb4 XHB) | ((with_reducible refine gate_dst (N := 7) rfl ?_); refine box_event ?hg (N := 7) ?hd (cs := #[.bool false, .slice none 0 0, .slice none 0 0, .slice none 0 0]) (t := 25) ?hr ?_; (case hd => rfl); (case hg => rfl); (case hr => first | (go_simp; done) | (go_simp; rfl)); intro g7 hg w7 hbox hb; have Gg7 := Aside0.mk (show w.heap.size ≤ g7 by rw [hg]; exact below_size (by repeat (first | (with_reducible first | exact HB.out | apply below_alloc | apply pw_below_drewN | apply below_drew1) | exact HB.out))); have Ng1_g7 := Aside0.mk (show g1 ≠ g7 by rw [hg]; exact Nat.ne_of_lt (blk_lt (o := .cells #[.bool lf, .slice A1 K3.length c1, .slice A2 V3.length c2, .slice A3 C3.length c3] 25 (0, 0)) (by (with_reducible repeat (first | refine blk_drewN ?_ _ | refine blk_drew ?_ | refine blk_alloc ?_ _)); exact B1.out))); have Ng3_g7 := Aside0.mk (show g3 ≠ g7 by rw [hg]; exact Nat.ne_of_lt (blk_lt (o := .cells #[.bool lf, .slice Aa2 a2.length ca2, .slice Aa3 a3.length ca3, .slice Aa4 a4.length ca4] 25 (0, 0)) (by (with_reducible repeat (first | refine blk_drewN ?_ _ | refine blk_drew ?_ | refine blk_alloc ?_ _)); exact B3.out))); have Ng5_g7 := Aside0.mk (show g5 ≠ g7 by rw [hg]; exact Nat.ne_of_lt (blk_lt (o := .cells #[.bool lf, .slice Ab2 b2.length cb2, .slice Ab3 b3.length cb3, .slice Ab4 b4.length cb4] 25 (0, 0)) (by (with_reducible repeat (first | refine blk_drewN ?_ _ | refine blk_drew ?_ | refine blk_alloc ?_ _)); exact B5.out))); have XB1 := Aside0.mk (blk_below (o := .cells #[.bool lf, .slice A1 K3.length c1, .slice A2 V3.length c2, .slice A3 C3.length c3] 25 (0, 0)) (by (with_reducible repeat (first | refine blk_drewN ?_ _ | refine blk_drew ?_ | refine blk_alloc ?_ _)); exact B1.out) hb); have XB3 := Aside0.mk (blk_below (o := .cells #[.bool lf, .slice Aa2 a2.length ca2, .slice Aa3 a3.length ca3, .slice Aa4 a4.length ca4] 25 (0, 0)) (by (with_reducible repeat (first | refine blk_drewN ?_ _ | refine blk_drew ?_ | refine blk_alloc ?_ _)); exact B3.out) hb); have XB5 := Aside0.mk (blk_below (o := .cells #[.bool lf, .slice Ab2 b2.length cb2, .slice Ab3 b3.length cb3, .slice Ab4 b4.length cb4] 25 (0, 0)) (by (with_reducible repeat (first | refine blk_drewN ?_ _ | refine blk_drew ?_ | refine blk_alloc ?_ _)); exact B5.out) hb); have XHa2 := Aside0.mk (Kd.R_below (by (with_reducible repeat (first | apply Kd.R_alloc | apply Kd.R_drewN | apply Kd.R_drew)); exact Ha2.out) hb); have XHa3 := Aside0.mk (Kd.R_below (by (with_reducible repeat (first | apply Kd.R_alloc | apply Kd.R_drewN | apply Kd.R_drew)); exact Ha3.out) hb); have XHa4 := Aside0.mk (Kd.R_below (by (with_reducible repeat (first | apply Kd.R_alloc | apply Kd.R_drewN | apply Kd.R_drew)); exact Ha4.out) hb); have XHb2 := Aside0.mk (Kd.R_below (by (with_reducible repeat (first | apply Kd.R_alloc | apply Kd.R_drewN | apply Kd.R_drew)); exact Hb2.out) hb); have XHb3 := Aside0.mk (Kd.R_below (by (with_reducible repeat (first | apply Kd.R_alloc | apply Kd.R_drewN | apply Kd.R_drew)); exact Hb3.out) hb); have XHb4 := Aside0.mk (Kd.R_below (by (with_reducible repeat (first | apply Kd.R_alloc | apply Kd.R_drewN | apply Kd.R_drew)); exact Hb4.out) hb); have XHm2 := Aside0.mk (Kd.R_below (by (with_reducible repeat (first | apply Kd.R_alloc | apply Kd.R_drewN | apply Kd.R_drew)); exact Hm2.out) hb); have XHm3 := Aside0.mk (Kd.R_below (by (with_reducible repeat (first | apply Kd.R_alloc | apply Kd.R_drewN | apply Kd.R_drew)); exact Hm3.out) hb); have XHm4 := Aside0.mk (Kd.R_below (by (with_reducible repeat (first | apply Kd.R_alloc | apply Kd.R_drewN | apply Kd.R_drew)); exact Hm4.out) hb); have XHB := Aside0.mk (below_step (by repeat (first | (with_reducible first | exact HB.out | apply below_alloc | apply pw_below_drewN | apply below_drew1) | exact HB.out)) hb); clear hb; clear B1 B3 B5 Ha2 Ha3 Ha4 Hb2 Hb3 Hb4 Hm2 Hm3 Hm4 HB; have B1 := XB1; have B3 := XB3; have B5 := XB5; have Ha2 := XHa2; have Ha3 := XHa3; have Ha4 := XHa4; have Hb2 := XHb2; have Hb3 := XHb3; have Hb4 := XHb4; have Hm2 := XHm2; have Hm3 := XHm3; have Hm4 := XHm4; have HB := XHB; clear XB1 XB3 XB5 XHa2 XHa3 XHa4 XHb2 XHb3 XHb4 XHm2 XHm3 XHm4 XHB; have B7 := Aside0.mk hbox; clear hbox hg; have g1_0 : w7.cell? ⟨g1, 0, none⟩ = some (.bool lf) := (blk_cell B1.out 0).trans rfl; have g1_1 : w7.cell? ⟨g1, 1, none⟩ = some (.slice A1 K3.length c1) := (blk_cell B1.out 1).trans rfl; have g1_2 : w7.cell? ⟨g1, 2, none⟩ = some (.slice A2 V3.length c2) := (blk_cell B1.out 2).trans rfl; have g1_3 : w7.cell? ⟨g1, 3, none⟩ = some (.slice A3 C3.length c3) := (blk_cell B1.out 3).trans rfl; have g3_0 : w7.cell? ⟨g3, 0, none⟩ = some (.bool lf) := (blk_cell B3.out 0).trans rfl; have g3_1 : w7.cell? ⟨g3, 1, none⟩ = some (.slice Aa2 a2.length ca2) := (blk_cell B3.out 1).trans rfl; have g3_2 : w7.cell? ⟨g3, 2, none⟩ = some (.slice Aa3 a3.length ca3) := (blk_cell B3.out 2).trans rfl; have g3_3 : w7.cell? ⟨g3, 3, none⟩ = some (.slice Aa4 a4.length ca4) := (blk_cell B3.out 3).trans rfl; have g5_0 : w7.cell? ⟨g5, 0, none⟩ = some (.bool lf) := (blk_cell B5.out 0).trans rfl; have g5_1 : w7.cell? ⟨g5, 1, none⟩ = some (.slice Ab2 b2.length cb2) := (blk_cell B5.out 1).trans rfl; have g5_2 : w7.cell? ⟨g5, 2, none⟩ = some (.slice Ab3 b3.length cb3) := (blk_cell B5.out 2).trans rfl; have g5_3 : w7.cell? ⟨g5, 3, none⟩ = some (.slice Ab4 b4.length cb4) := (blk_cell B5.out 3).trans rfl; have g7_0 : w7.cell? ⟨g7, 0, none⟩ = some (.bool false) := (blk_cell B7.out 0).trans rfl; have g7_1 : w7.cell? ⟨g7, 1, none⟩ = some (.slice none 0 0) := (blk_cell B7.out 1).trans rfl; have g7_2 : w7.cell? ⟨g7, 2, none⟩ = some (.slice none 0 0) := (blk_cell B7.out 2).trans rfl; have g7_3 : w7.cell? ⟨g7, 3, none⟩ = some (.slice none 0 0) := (blk_cell B7.out 3).trans rfl; have g7f0 := blk_frozen B7.out 0; have g7f1 := blk_frozen B7.out 1; have g7f2 := blk_frozen B7.out 2; have g7f3 := blk_frozen B7.out 3))
  try clear g1_0
  try clear g1_1
  try clear g1_2
  try clear g1_3
  try clear g3_0
  try clear g3_1
  try clear g3_2
  try clear g3_3
  try clear g5_0
  try clear g5_1
  try clear g5_2
  try clear g5_3
  try clear g7_0
  try clear g7_1
  try clear g7_2
  try clear g7_3
  try clear g1f0
  try clear g1f1
  try clear g1f2
  try clear g1f3
  try clear g3f0
  try clear g3f1
  try clear g3f2
  try clear g3f3
  try clear g5f0
  try clear g5f1
  try clear g5f2
  try clear g5f3
  try clear g7f0
  try clear g7f1
  try clear g7f2
  try clear g7f3
  have XB1 := Aside0.mk (show ((((w7.setCell ⟨g7, 0, none⟩ (.bool m1)).setCell ⟨g7, 1, none⟩ (.slice Am2 m2.length cm2)).setCell ⟨g7, 2, none⟩ (.slice Am3 m3.length cm3)).setCell ⟨g7, 3, none⟩ (.slice Am4 m4.length cm4)).heap[g1]? = some (.cells #[.bool lf, .slice A1 K3.length c1, .slice A2 V3.length c2, .slice A3 C3.length c3] 25 (0, 0)) from set4_far (B1.out) Ng1_g7.out)
  have XB3 := Aside0.mk (show ((((w7.setCell ⟨g7, 0, none⟩ (.bool m1)).setCell ⟨g7, 1, none⟩ (.slice Am2 m2.length cm2)).setCell ⟨g7, 2, none⟩ (.slice Am3 m3.length cm3)).setCell ⟨g7, 3, none⟩ (.slice Am4 m4.length cm4)).heap[g3]? = some (.cells #[.bool lf, .slice Aa2 a2.length ca2, .slice Aa3 a3.length ca3, .slice Aa4 a4.length ca4] 25 (0, 0)) from set4_far (B3.out) Ng3_g7.out)
  have XB5 := Aside0.mk (show ((((w7.setCell ⟨g7, 0, none⟩ (.bool m1)).setCell ⟨g7, 1, none⟩ (.slice Am2 m2.length cm2)).setCell ⟨g7, 2, none⟩ (.slice Am3 m3.length cm3)).setCell ⟨g7, 3, none⟩ (.slice Am4 m4.length cm4)).heap[g5]? = some (.cells #[.bool lf, .slice Ab2 b2.length cb2, .slice Ab3 b3.length cb3, .slice Ab4 b4.length cb4] 25 (0, 0)) from set4_far (B5.out) Ng5_g7.out)
  have XB7 := Aside0.mk (show ((((w7.setCell ⟨g7, 0, none⟩ (.bool m1)).setCell ⟨g7, 1, none⟩ (.slice Am2 m2.length cm2)).setCell ⟨g7, 2, none⟩ (.slice Am3 m3.length cm3)).setCell ⟨g7, 3, none⟩ (.slice Am4 m4.length cm4)).heap[g7]? = some (.cells #[.bool m1, .slice Am2 m2.length cm2, .slice Am3 m3.length cm3, .slice Am4 m4.length cm4] 25 (0, 0)) from set4_put (B7.out))
  have XHa2 := Aside0.mk (show Kd.R Kd.string 9 ((((w7.setCell ⟨g7, 0, none⟩ (.bool m1)).setCell ⟨g7, 1, none⟩ (.slice Am2 m2.length cm2)).setCell ⟨g7, 2, none⟩ (.slice Am3 m3.length cm3)).setCell ⟨g7, 3, none⟩ (.slice Am4 m4.length cm4)) w.heap.size (fun _ => True) (.slice Aa2 a2.length ca2) a2 from set4_R (Ha2.out) B7.out (by decide))
  have XHa3 := Aside0.mk (show Kd.R Kd.string 9 ((((w7.setCell ⟨g7, 0, none⟩ (.bool m1)).setCell ⟨g7, 1, none⟩ (.slice Am2 m2.length cm2)).setCell ⟨g7, 2, none⟩ (.slice Am3 m3.length cm3)).setCell ⟨g7, 3, none⟩ (.slice Am4 m4.length cm4)) w.heap.size (fun _ => True) (.slice Aa3 a3.length ca3) a3 from set4_R (Ha3.out) B7.out (by decide))
  have XHa4 := Aside0.mk (show Kd.R (Kd.int .i64) 3 ((((w7.setCell ⟨g7, 0, none⟩ (.bool m1)).setCell ⟨g7, 1, none⟩ (.slice Am2 m2.length cm2)).setCell ⟨g7, 2, none⟩ (.slice Am3 m3.length cm3)).setCell ⟨g7, 3, none⟩ (.slice Am4 m4.length cm4)) w.heap.size (fun _ => True) (.slice Aa4 a4.length ca4) a4 from set4_R (Ha4.out) B7.out (by decide))
  have XHb2 := Aside0.mk (show Kd.R Kd.string 9 ((((w7.setCell ⟨g7, 0, none⟩ (.bool m1)).setCell ⟨g7, 1, none⟩ (.slice Am2 m2.length cm2)).setCell ⟨g7, 2, none⟩ (.slice Am3 m3.length cm3)).setCell ⟨g7, 3, none⟩ (.slice Am4 m4.length cm4)) w.heap.size (fun _ => True) (.slice Ab2 b2.length cb2) b2 from set4_R (Hb2.out) B7.out (by decide))
  have XHb3 := Aside0.mk (show Kd.R Kd.string 9 ((((w7.setCell ⟨g7, 0, none⟩ (.bool m1)).setCell ⟨g7, 1, none⟩ (.slice Am2 m2.length cm2)).setCell ⟨g7, 2, none⟩ (.slice Am3 m3.length cm3)).setCell ⟨g7, 3, none⟩ (.slice Am4 m4.length cm4)) w.heap.size (fun _ => True) (.slice Ab3 b3.length cb3) b3 from set4_R (Hb3.out) B7.out (by decide))
  have XHb4 := Aside0.mk (show Kd.R (Kd.int .i64) 3 ((((w7.setCell ⟨g7, 0, none⟩ (.bool m1)).setCell ⟨g7, 1, none⟩ (.slice Am2 m2.length cm2)).setCell ⟨g7, 2, none⟩ (.slice Am3 m3.length cm3)).setCell ⟨g7, 3, none⟩ (.slice Am4 m4.length cm4)) w.heap.size (fun _ => True) (.slice Ab4 b4.length cb4) b4 from set4_R (Hb4.out) B7.out (by decide))
  have XHm2 := Aside0.mk (show Kd.R Kd.string 9 ((((w7.setCell ⟨g7, 0, none⟩ (.bool m1)).setCell ⟨g7, 1, none⟩ (.slice Am2 m2.length cm2)).setCell ⟨g7, 2, none⟩ (.slice Am3 m3.length cm3)).setCell ⟨g7, 3, none⟩ (.slice Am4 m4.length cm4)) w.heap.size (fun _ => True) (.slice Am2 m2.length cm2) m2 from set4_R (Hm2.out) B7.out (by decide))
  have XHm3 := Aside0.mk (show Kd.R Kd.string 9 ((((w7.setCell ⟨g7, 0, none⟩ (.bool m1)).setCell ⟨g7, 1, none⟩ (.slice Am2 m2.length cm2)).setCell ⟨g7, 2, none⟩ (.slice Am3 m3.length cm3)).setCell ⟨g7, 3, none⟩ (.slice Am4 m4.length cm4)) w.heap.size (fun _ => True) (.slice Am3 m3.length cm3) m3 from set4_R (Hm3.out) B7.out (by decide))
  have XHm4 := Aside0.mk (show Kd.R (Kd.int .i64) 3 ((((w7.setCell ⟨g7, 0, none⟩ (.bool m1)).setCell ⟨g7, 1, none⟩ (.slice Am2 m2.length cm2)).setCell ⟨g7, 2, none⟩ (.slice Am3 m3.length cm3)).setCell ⟨g7, 3, none⟩ (.slice Am4 m4.length cm4)) w.heap.size (fun _ => True) (.slice Am4 m4.length cm4) m4 from set4_R (Hm4.out) B7.out (by decide))
  have XHB := Aside0.mk (show Below w.heap.size w ((((w7.setCell ⟨g7, 0, none⟩ (.bool m1)).setCell ⟨g7, 1, none⟩ (.slice Am2 m2.length cm2)).setCell ⟨g7, 2, none⟩ (.slice Am3 m3.length cm3)).setCell ⟨g7, 3, none⟩ (.slice Am4 m4.length cm4)) from set4_below (HB.out) Gg7.out)
  clear B1 B3 B5 B7 Ha2 Ha3 Ha4 Hb2 Hb3 Hb4 Hm2 Hm3 Hm4 HB
  have B1 := XB1
  have B3 := XB3
  have B5 := XB5
  have B7 := XB7
  have Ha2 := XHa2
  have Ha3 := XHa3
  have Ha4 := XHa4
  have Hb2 := XHb2
  have Hb3 := XHb3
  have Hb4 := XHb4
  have Hm2 := XHm2
  have Hm3 := XHm3
  have Hm4 := XHm4
  have HB := XHB
  clear XB1 XB3 XB5 XB7 XHa2 XHa3 XHa4 XHb2 XHb3 XHb4 XHm2 XHm3 XHm4 XHB
  generalize (((w7.setCell ⟨g7, 0, none⟩ (.bool m1)).setCell ⟨g7, 1, none⟩ (.slice Am2 m2.length cm2)).setCell ⟨g7, 2, none⟩ (.slice Am3 m3.length cm3)).setCell ⟨g7, 3, none⟩ (.slice Am4 m4.length cm4) = q6 at *
  have g1_0 : q6.cell? ⟨g1, 0, none⟩ = some (.bool lf) := (blk_cell B1.out 0).trans rfl
  have g1_1 : q6.cell? ⟨g1, 1, none⟩ = some (.slice A1 K3.length c1) := (blk_cell B1.out 1).trans rfl
  have g1_2 : q6.cell? ⟨g1, 2, none⟩ = some (.slice A2 V3.length c2) := (blk_cell B1.out 2).trans rfl
  have g1_3 : q6.cell? ⟨g1, 3, none⟩ = some (.slice A3 C3.length c3) := (blk_cell B1.out 3).trans rfl
  have g3_0 : q6.cell? ⟨g3, 0, none⟩ = some (.bool lf) := (blk_cell B3.out 0).trans rfl
  have g3_1 : q6.cell? ⟨g3, 1, none⟩ = some (.slice Aa2 a2.length ca2) := (blk_cell B3.out 1).trans rfl
  have g3_2 : q6.cell? ⟨g3, 2, none⟩ = some (.slice Aa3 a3.length ca3) := (blk_cell B3.out 2).trans rfl
  have g3_3 : q6.cell? ⟨g3, 3, none⟩ = some (.slice Aa4 a4.length ca4) := (blk_cell B3.out 3).trans rfl
  have g5_0 : q6.cell? ⟨g5, 0, none⟩ = some (.bool lf) := (blk_cell B5.out 0).trans rfl
  have g5_1 : q6.cell? ⟨g5, 1, none⟩ = some (.slice Ab2 b2.length cb2) := (blk_cell B5.out 1).trans rfl
  have g5_2 : q6.cell? ⟨g5, 2, none⟩ = some (.slice Ab3 b3.length cb3) := (blk_cell B5.out 2).trans rfl
  have g5_3 : q6.cell? ⟨g5, 3, none⟩ = some (.slice Ab4 b4.length cb4) := (blk_cell B5.out 3).trans rfl
  have g7_0 : q6.cell? ⟨g7, 0, none⟩ = some (.bool m1) := (blk_cell B7.out 0).trans rfl
  have g7_1 : q6.cell? ⟨g7, 1, none⟩ = some (.slice Am2 m2.length cm2) := (blk_cell B7.out 1).trans rfl
  have g7_2 : q6.cell? ⟨g7, 2, none⟩ = some (.slice Am3 m3.length cm3) := (blk_cell B7.out 2).trans rfl
  have g7_3 : q6.cell? ⟨g7, 3, none⟩ = some (.slice Am4 m4.length cm4) := (blk_cell B7.out 3).trans rfl
  have el1 : (lf != lf) = false := by simp
  have el2 : (lf == lf) = true := by simp
  have el3 : decide (lf = lf) = true := by simp
  go_upto_region 8 with (first | (go_at_call 23; with_reducible refine (peneloperef07_Like.calls k m1 _ _ m2 _ _ m3 _ _ m4 _ _ _ K3 _ _ V3 _ _ C3 true _ ?s1 (Kd.R_reads' Hm2.out).2.1 ?s2 (Kd.R_reads' Hm3.out).2.1 ?s3 (Kd.R_reads' Hm4.out).2.1 ?s4 HL1.out ?s5 HL2.out ?s6 HL3.out TL.out).mono ?_; (case s1 => exact (by repeat (first | exact (Kd.R_reads' Hm2.out).2.2 | (with_reducible refine Kd.C_alloc ?_ _) | (with_reducible refine Kd.C_drewN ?_ _) | (with_reducible refine Kd.C_drew ?_)))); (case s2 => exact (by repeat (first | exact (Kd.R_reads' Hm3.out).2.2 | (with_reducible refine Kd.C_alloc ?_ _) | (with_reducible refine Kd.C_drewN ?_ _) | (with_reducible refine Kd.C_drew ?_)))); (case s3 => exact (by repeat (first | exact (Kd.R_reads' Hm4.out).2.2 | (with_reducible refine Kd.C_alloc ?_ _) | (with_reducible refine Kd.C_drewN ?_ _) | (with_reducible refine Kd.C_drew ?_)))); (case s4 => exact (by repeat (first | exact (Kd.C_below HT1.out HB.out) | (with_reducible refine Kd.C_alloc ?_ _) | (with_reducible refine Kd.C_drewN ?_ _) | (with_reducible refine Kd.C_drew ?_)))); (case s5 => exact (by repeat (first | exact (Kd.C_below HT2.out HB.out) | (with_reducible refine Kd.C_alloc ?_ _) | (with_reducible refine Kd.C_drewN ?_ _) | (with_reducible refine Kd.C_drew ?_)))); (case s6 => exact (by repeat (first | exact (Kd.C_below HT3.out HB.out) | (with_reducible refine Kd.C_alloc ?_ _) | (with_reducible refine Kd.C_drewN ?_ _) | (with_reducible refine Kd.C_drew ?_)))); rintro e w8 ⟨rfl, hb⟩; have XB1 := Aside0.mk (blk_below (o := .cells #[.bool lf, .slice A1 K3.length c1, .slice A2 V3.length c2, .slice A3 C3.length c3] 25 (0, 0)) (by (with_reducible repeat (first | refine blk_drewN ?_ _ | refine blk_drew ?_ | refine blk_alloc ?_ _)); exact B1.out) hb); have XB3 := Aside0.mk (blk_below (o := .cells #[.bool lf, .slice Aa2 a2.length ca2, .slice Aa3 a3.length ca3, .slice Aa4 a4.length ca4] 25 (0, 0)) (by (with_reducible repeat (first | refine blk_drewN ?_ _ | refine blk_drew ?_ | refine blk_alloc ?_ _)); exact B3.out) hb); have XB5 := Aside0.mk (blk_below (o := .cells #[.bool lf, .slice Ab2 b2.length cb2, .slice Ab3 b3.length cb3, .slice Ab4 b4.length cb4] 25 (0, 0)) (by (with_reducible repeat (first | refine blk_drewN ?_ _ | refine blk_drew ?_ | refine blk_alloc ?_ _)); exact B5.out) hb); have XB7 := Aside0.mk (blk_below (o := .cells #[.bool m1, .slice Am2 m2.length cm2, .slice Am3 m3.length cm3, .slice Am4 m4.length cm4] 25 (0, 0)) (by (with_reducible repeat (first | refine blk_drewN ?_ _ | refine blk_drew ?_ | refine blk_alloc ?_ _)); exact B7.out) hb); have XHa2 := Aside0.mk (Kd.R_below (by (with_reducible repeat (first | apply Kd.R_alloc | apply Kd.R_drewN | apply Kd.R_drew)); exact Ha2.out) hb); have XHa3 := Aside0.mk (Kd.R_below (by (with_reducible repeat (first | apply Kd.R_alloc | apply Kd.R_drewN | apply Kd.R_drew)); exact Ha3.out) hb); have XHa4 := Aside0.mk (Kd.R_below (by (with_reducible repeat (first | apply Kd.R_alloc | apply Kd.R_drewN | apply Kd.R_drew)); exact Ha4.out) hb); have XHb2 := Aside0.mk (Kd.R_below (by (with_reducible repeat (first | apply Kd.R_alloc | apply Kd.R_drewN | apply Kd.R_drew)); exact Hb2.out) hb); have XHb3 := Aside0.mk (Kd.R_below (by (with_reducible repeat (first | apply Kd.R_alloc | apply Kd.R_drewN | apply Kd.R_drew)); exact Hb3.out) hb); have XHb4 := Aside0.mk (Kd.R_below (by (with_reducible repeat (first | apply Kd.R_alloc | apply Kd.R_drewN | apply Kd.R_drew)); exact Hb4.out) hb); have XHm2 := Aside0.mk (Kd.R_below (by (with_reducible repeat (first | apply Kd.R_alloc | apply Kd.R_drewN | apply Kd.R_drew)); exact Hm2.out) hb); have XHm3 := Aside0.mk (Kd.R_below (by (with_reducible repeat (first | apply Kd.R_alloc | apply Kd.R_drewN | apply Kd.R_drew)); exact Hm3.out) hb); have XHm4 := Aside0.mk (Kd.R_below (by (with_reducible repeat (first | apply Kd.R_alloc | apply Kd.R_drewN | apply Kd.R_drew)); exact Hm4.out) hb); have XHB := Aside0.mk (below_step (by repeat (first | (with_reducible first | exact HB.out | apply below_alloc | apply pw_below_drewN | apply below_drew1) | exact HB.out)) hb); clear hb; clear B1 B3 B5 B7 Ha2 Ha3 Ha4 Hb2 Hb3 Hb4 Hm2 Hm3 Hm4 HB; have B1 := XB1; have B3 := XB3; have B5 := XB5; have B7 := XB7; have Ha2 := XHa2; have Ha3 := XHa3; have Ha4 := XHa4; have Hb2 := XHb2; have Hb3 := XHb3; have Hb4 := XHb4; have Hm2 := XHm2; have Hm3 := XHm3; have Hm4 := XHm4; have HB := XHB; clear XB1 XB3 XB5 XB7 XHa2 XHa3 XHa4 XHb2 XHb3 XHb4 XHm2 XHm3 XHm4 XHB; have g1_0 : w8.cell? ⟨g1, 0, none⟩ = some (.bool lf) := (blk_cell B1.out 0).trans rfl; have g1_1 : w8.cell? ⟨g1, 1, none⟩ = some (.slice A1 K3.length c1) := (blk_cell B1.out 1).trans rfl; have g1_2 : w8.cell? ⟨g1, 2, none⟩ = some (.slice A2 V3.length c2) := (blk_cell B1.out 2).trans rfl; have g1_3 : w8.cell? ⟨g1, 3, none⟩ = some (.slice A3 C3.length c3) := (blk_cell B1.out 3).trans rfl; have g3_0 : w8.cell? ⟨g3, 0, none⟩ = some (.bool lf) := (blk_cell B3.out 0).trans rfl; have g3_1 : w8.cell? ⟨g3, 1, none⟩ = some (.slice Aa2 a2.length ca2) := (blk_cell B3.out 1).trans rfl; have g3_2 : w8.cell? ⟨g3, 2, none⟩ = some (.slice Aa3 a3.length ca3) := (blk_cell B3.out 2).trans rfl; have g3_3 : w8.cell? ⟨g3, 3, none⟩ = some (.slice Aa4 a4.length ca4) := (blk_cell B3.out 3).trans rfl; have g5_0 : w8.cell? ⟨g5, 0, none⟩ = some (.bool lf) := (blk_cell B5.out 0).trans rfl; have g5_1 : w8.cell? ⟨g5, 1, none⟩ = some (.slice Ab2 b2.length cb2) := (blk_cell B5.out 1).trans rfl; have g5_2 : w8.cell? ⟨g5, 2, none⟩ = some (.slice Ab3 b3.length cb3) := (blk_cell B5.out 2).trans rfl; have g5_3 : w8.cell? ⟨g5, 3, none⟩ = some (.slice Ab4 b4.length cb4) := (blk_cell B5.out 3).trans rfl; have g7_0 : w8.cell? ⟨g7, 0, none⟩ = some (.bool m1) := (blk_cell B7.out 0).trans rfl; have g7_1 : w8.cell? ⟨g7, 1, none⟩ = some (.slice Am2 m2.length cm2) := (blk_cell B7.out 1).trans rfl; have g7_2 : w8.cell? ⟨g7, 2, none⟩ = some (.slice Am3 m3.length cm3) := (blk_cell B7.out 2).trans rfl; have g7_3 : w8.cell? ⟨g7, 3, none⟩ = some (.slice Am4 m4.length cm4) := (blk_cell B7.out 3).trans rfl) | (go_at_call 14; with_reducible refine (node_Right.calls k _ _ _ a2 _ _ a3 _ _ a4 false true _ ?s1 (Kd.R_reads' Ha2.out).2.1 ?s2 (Kd.R_reads' Ha3.out).2.1 ?s3 (Kd.R_reads' Ha4.out).2.1 TR.out).mono ?_; (case s1 => exact (by repeat (first | exact (Kd.R_reads' Ha2.out).2.2 | (with_reducible refine Kd.C_alloc ?_ _) | (with_reducible refine Kd.C_drewN ?_ _) | (with_reducible refine Kd.C_drew ?_)))); (case s2 => exact (by repeat (first | exact (Kd.R_reads' Ha3.out).2.2 | (with_reducible refine Kd.C_alloc ?_ _) | (with_reducible refine Kd.C_drewN ?_ _) | (with_reducible refine Kd.C_drew ?_)))); (case s3 => exact (by repeat (first | exact (Kd.R_reads' Ha4.out).2.2 | (with_reducible refine Kd.C_alloc ?_ _) | (with_reducible refine Kd.C_drewN ?_ _) | (with_reducible refine Kd.C_drew ?_)))); rintro e w9 ⟨rfl, hb⟩; have XB1 := Aside0.mk (blk_below (o := .cells #[.bool lf, .slice A1 K3.length c1, .slice A2 V3.length c2, .slice A3 C3.length c3] 25 (0, 0)) (by (with_reducible repeat (first | refine blk_drewN ?_ _ | refine blk_drew ?_ | refine blk_alloc ?_ _)); exact B1.out) hb); have XB3 := Aside0.mk (blk_below (o := .cells #[.bool lf, .slice Aa2 a2.length ca2, .slice Aa3 a3.length ca3, .slice Aa4 a4.length ca4] 25 (0, 0)) (by (with_reducible repeat (first | refine blk_drewN ?_ _ | refine blk_drew ?_ | refine blk_alloc ?_ _)); exact B3.out) hb); have XB5 := Aside0.mk (blk_below (o := .cells #[.bool lf, .slice Ab2 b2.length cb2, .slice Ab3 b3.length cb3, .slice Ab4 b4.length cb4] 25 (0, 0)) (by (with_reducible repeat (first | refine blk_drewN ?_ _ | refine blk_drew ?_ | refine blk_alloc ?_ _)); exact B5.out) hb); have XB7 := Aside0.mk (blk_below (o := .cells #[.bool m1, .slice Am2 m2.length cm2, .slice Am3 m3.length cm3, .slice Am4 m4.length cm4] 25 (0, 0)) (by (with_reducible repeat (first | refine blk_drewN ?_ _ | refine blk_drew ?_ | refine blk_alloc ?_ _)); exact B7.out) hb); have XHa2 := Aside0.mk (Kd.R_below (by (with_reducible repeat (first | apply Kd.R_alloc | apply Kd.R_drewN | apply Kd.R_drew)); exact Ha2.out) hb); have XHa3 := Aside0.mk (Kd.R_below (by (with_reducible repeat (first | apply Kd.R_alloc | apply Kd.R_drewN | apply Kd.R_drew)); exact Ha3.out) hb); have XHa4 := Aside0.mk (Kd.R_below (by (with_reducible repeat (first | apply Kd.R_alloc | apply Kd.R_drewN | apply Kd.R_drew)); exact Ha4.out) hb); have XHb2 := Aside0.mk (Kd.R_below (by (with_reducible repeat (first | apply Kd.R_alloc | apply Kd.R_drewN | apply Kd.R_drew)); exact Hb2.out) hb); have XHb3 := Aside0.mk (Kd.R_below (by (with_reducible repeat (first | apply Kd.R_alloc | apply Kd.R_drewN | apply Kd.R_drew)); exact Hb3.out) hb); have XHb4 := Aside0.mk (Kd.R_below (by (with_reducible repeat (first | apply Kd.R_alloc | apply Kd.R_drewN | apply Kd.R_drew)); exact Hb4.out) hb); have XHm2 := Aside0.mk (Kd.R_below (by (with_reducible repeat (first | apply Kd.R_alloc | apply Kd.R_drewN | apply Kd.R_drew)); exact Hm2.out) hb); have XHm3 := Aside0.mk (Kd.R_below (by (with_reducible repeat (first | apply Kd.R_alloc | apply Kd.R_drewN | apply Kd.R_drew)); exact Hm3.out) hb); have XHm4 := Aside0.mk (Kd.R_below (by (with_reducible repeat (first | apply Kd.R_alloc | apply Kd.R_drewN | apply Kd.R_drew)); exact Hm4.out) hb); have XHB := Aside0.mk (below_step (by repeat (first | (with_reducible first | exact HB.out | apply below_alloc | apply pw_below_drewN | apply below_drew1) | exact HB.out)) hb); clear hb; clear B1 B3 B5 B7 Ha2 Ha3 Ha4 Hb2 Hb3 Hb4 Hm2 Hm3 Hm4 HB; have B1 := XB1; have B3 := XB3; have B5 := XB5; have B7 := XB7; have Ha2 := XHa2; have Ha3 := XHa3; have Ha4 := XHa4; have Hb2 := XHb2; have Hb3 := XHb3; have Hb4 := XHb4; have Hm2 := XHm2; have Hm3 := XHm3; have Hm4 := XHm4; have HB := XHB; clear XB1 XB3 XB5 XB7 XHa2 XHa3 XHa4 XHb2 XHb3 XHb4 XHm2 XHm3 XHm4 XHB; have g1_0 : w9.cell? ⟨g1, 0, none⟩ = some (.bool lf) := (blk_cell B1.out 0).trans rfl; have g1_1 : w9.cell? ⟨g1, 1, none⟩ = some (.slice A1 K3.length c1) := (blk_cell B1.out 1).trans rfl; have g1_2 : w9.cell? ⟨g1, 2, none⟩ = some (.slice A2 V3.length c2) := (blk_cell B1.out 2).trans rfl; have g1_3 : w9.cell? ⟨g1, 3, none⟩ = some (.slice A3 C3.length c3) := (blk_cell B1.out 3).trans rfl; have g3_0 : w9.cell? ⟨g3, 0, none⟩ = some (.bool lf) := (blk_cell B3.out 0).trans rfl; have g3_1 : w9.cell? ⟨g3, 1, none⟩ = some (.slice Aa2 a2.length ca2) := (blk_cell B3.out 1).trans rfl; have g3_2 : w9.cell? ⟨g3, 2, none⟩ = some (.slice Aa3 a3.length ca3) := (blk_cell B3.out 2).trans rfl; have g3_3 : w9.cell? ⟨g3, 3, none⟩ = some (.slice Aa4 a4.length ca4) := (blk_cell B3.out 3).trans rfl; have g5_0 : w9.cell? ⟨g5, 0, none⟩ = some (.bool lf) := (blk_cell B5.out 0).trans rfl; have g5_1 : w9.cell? ⟨g5, 1, none⟩ = some (.slice Ab2 b2.length cb2) := (blk_cell B5.out 1).trans rfl; have g5_2 : w9.cell? ⟨g5, 2, none⟩ = some (.slice Ab3 b3.length cb3) := (blk_cell B5.out 2).trans rfl; have g5_3 : w9.cell? ⟨g5, 3, none⟩ = some (.slice Ab4 b4.length cb4) := (blk_cell B5.out 3).trans rfl; have g7_0 : w9.cell? ⟨g7, 0, none⟩ = some (.bool m1) := (blk_cell B7.out 0).trans rfl; have g7_1 : w9.cell? ⟨g7, 1, none⟩ = some (.slice Am2 m2.length cm2) := (blk_cell B7.out 1).trans rfl; have g7_2 : w9.cell? ⟨g7, 2, none⟩ = some (.slice Am3 m3.length cm3) := (blk_cell B7.out 2).trans rfl; have g7_3 : w9.cell? ⟨g7, 3, none⟩ = some (.slice Am4 m4.length cm4) := (blk_cell B7.out 3).trans rfl) | (go_at_call 14; with_reducible refine (node_Right.calls k _ _ _ b2 _ _ b3 _ _ b4 false true _ ?s1 (Kd.R_reads' Hb2.out).2.1 ?s2 (Kd.R_reads' Hb3.out).2.1 ?s3 (Kd.R_reads' Hb4.out).2.1 TS.out).mono ?_; (case s1 => exact (by repeat (first | exact (Kd.R_reads' Hb2.out).2.2 | (with_reducible refine Kd.C_alloc ?_ _) | (with_reducible refine Kd.C_drewN ?_ _) | (with_reducible refine Kd.C_drew ?_)))); (case s2 => exact (by repeat (first | exact (Kd.R_reads' Hb3.out).2.2 | (with_reducible refine Kd.C_alloc ?_ _) | (with_reducible refine Kd.C_drewN ?_ _) | (with_reducible refine Kd.C_drew ?_)))); (case s3 => exact (by repeat (first | exact (Kd.R_reads' Hb4.out).2.2 | (with_reducible refine Kd.C_alloc ?_ _) | (with_reducible refine Kd.C_drewN ?_ _) | (with_reducible refine Kd.C_drew ?_)))); rintro e wa ⟨rfl, hb⟩; have XB1 := Aside0.mk (blk_below (o := .cells #[.bool lf, .slice A1 K3.length c1, .slice A2 V3.length c2, .slice A3 C3.length c3] 25 (0, 0)) (by (with_reducible repeat (first | refine blk_drewN ?_ _ | refine blk_drew ?_ | refine blk_alloc ?_ _)); exact B1.out) hb); have XB3 := Aside0.mk (blk_below (o := .cells #[.bool lf, .slice Aa2 a2.length ca2, .slice Aa3 a3.length ca3, .slice Aa4 a4.length ca4] 25 (0, 0)) (by (with_reducible repeat (first | refine blk_drewN ?_ _ | refine blk_drew ?_ | refine blk_alloc ?_ _)); exact B3.out) hb); have XB5 := Aside0.mk (blk_below (o := .cells #[.bool lf, .slice Ab2 b2.length cb2, .slice Ab3 b3.length cb3, .slice Ab4 b4.length cb4] 25 (0, 0)) (by (with_reducible repeat (first | refine blk_drewN ?_ _ | refine blk_drew ?_ | refine blk_alloc ?_ _)); exact B5.out) hb); have XB7 := Aside0.mk (blk_below (o := .cells #[.bool m1, .slice Am2 m2.length cm2, .slice Am3 m3.length cm3, .slice Am4 m4.length cm4] 25 (0, 0)) (by (with_reducible repeat (first | refine blk_drewN ?_ _ | refine blk_drew ?_ | refine blk_alloc ?_ _)); exact B7.out) hb); have XHa2 := Aside0.mk (Kd.R_below (by (with_reducible repeat (first | apply Kd.R_alloc | apply Kd.R_drewN | apply Kd.R_drew)); exact Ha2.out) hb); have XHa3 := Aside0.mk (Kd.R_below (by (with_reducible repeat (first | apply Kd.R_alloc | apply Kd.R_drewN | apply Kd.R_drew)); exact Ha3.out) hb); have XHa4 := Aside0.mk (Kd.R_below (by (with_reducible repeat (first | apply Kd.R_alloc | apply Kd.R_drewN | apply Kd.R_drew)); exact Ha4.out) hb); have XHb2 := Aside0.mk (Kd.R_below (by (with_reducible repeat (first | apply Kd.R_alloc | apply Kd.R_drewN | apply Kd.R_drew)); exact Hb2.out) hb); have XHb3 := Aside0.mk (Kd.R_below (by (with_reducible repeat (first | apply Kd.R_alloc | apply Kd.R_drewN | apply Kd.R_drew)); exact Hb3.out) hb); have XHb4 := Aside0.mk (Kd.R_below (by (with_reducible repeat (first | apply Kd.R_alloc | apply Kd.R_drewN | apply Kd.R_drew)); exact Hb4.out) hb); have XHm2 := Aside0.mk (Kd.R_below (by (with_reducible repeat (first | apply Kd.R_alloc | apply Kd.R_drewN | apply Kd.R_drew)); exact Hm2.out) hb); have XHm3 := Aside0.mk (Kd.R_below (by (with_reducible repeat (first | apply Kd.R_alloc | apply Kd.R_drewN | apply Kd.R_drew)); exact Hm3.out) hb); have XHm4 := Aside0.mk (Kd.R_below (by (with_reducible repeat (first | apply Kd.R_alloc | apply Kd.R_drewN | apply Kd.R_drew)); exact Hm4.out) hb); have XHB := Aside0.mk (below_step (by repeat (first | (with_reducible first | exact HB.out | apply below_alloc | apply pw_below_drewN | apply below_drew1) | exact HB.out)) hb); clear hb; clear B1 B3 B5 B7 Ha2 Ha3 Ha4 Hb2 Hb3 Hb4 Hm2 Hm3 Hm4 HB; have B1 := XB1; have B3 := XB3; have B5 := XB5; have B7 := XB7; have Ha2 := XHa2; have Ha3 := XHa3; have Ha4 := XHa4; have Hb2 := XHb2; have Hb3 := XHb3; have Hb4 := XHb4; have Hm2 := XHm2; have Hm3 := XHm3; have Hm4 := XHm4; have HB := XHB; clear XB1 XB3 XB5 XB7 XHa2 XHa3 XHa4 XHb2 XHb3 XHb4 XHm2 XHm3 XHm4 XHB; have g1_0 : wa.cell? ⟨g1, 0, none⟩ = some (.bool lf) := (blk_cell B1.out 0).trans rfl; have g1_1 : wa.cell? ⟨g1, 1, none⟩ = some (.slice A1 K3.length c1) := (blk_cell B1.out 1).trans rfl; have g1_2 : wa.cell? ⟨g1, 2, none⟩ = some (.slice A2 V3.length c2) := (blk_cell B1.out 2).trans rfl; have g1_3 : wa.cell? ⟨g1, 3, none⟩ = some (.slice A3 C3.length c3) := (blk_cell B1.out 3).trans rfl; have g3_0 : wa.cell? ⟨g3, 0, none⟩ = some (.bool lf) := (blk_cell B3.out 0).trans rfl; have g3_1 : wa.cell? ⟨g3, 1, none⟩ = some (.slice Aa2 a2.length ca2) := (blk_cell B3.out 1).trans rfl; have g3_2 : wa.cell? ⟨g3, 2, none⟩ = some (.slice Aa3 a3.length ca3) := (blk_cell B3.out 2).trans rfl; have g3_3 : wa.cell? ⟨g3, 3, none⟩ = some (.slice Aa4 a4.length ca4) := (blk_cell B3.out 3).trans rfl; have g5_0 : wa.cell? ⟨g5, 0, none⟩ = some (.bool lf) := (blk_cell B5.out 0).trans rfl; have g5_1 : wa.cell? ⟨g5, 1, none⟩ = some (.slice Ab2 b2.length cb2) := (blk_cell B5.out 1).trans rfl; have g5_2 : wa.cell? ⟨g5, 2, none⟩ = some (.slice Ab3 b3.length cb3) := (blk_cell B5.out 2).trans rfl; have g5_3 : wa.cell? ⟨g5, 3, none⟩ = some (.slice Ab4 b4.length cb4) := (blk_cell B5.out 3).trans rfl; have g7_0 : wa.cell? ⟨g7, 0, none⟩ = some (.bool m1) := (blk_cell B7.out 0).trans rfl; have g7_1 : wa.cell? ⟨g7, 1, none⟩ = some (.slice Am2 m2.length cm2) := (blk_cell B7.out 1).trans rfl; have g7_2 : wa.cell? ⟨g7, 2, none⟩ = some (.slice Am3 m3.length cm3) := (blk_cell B7.out 2).trans rfl; have g7_3 : wa.cell? ⟨g7, 3, none⟩ = some (.slice Am4 m4.length cm4) := (blk_cell B7.out 3).trans rfl))
  go_wp2
  repeat (go_quiet (fail); try go_wp2)
  go_loopg [71] a2.length (fun kq v71 w' => ∃ i_ : Int, v71 = .int .i64 i_ ∧ Aside0 (0 ≤ i_ ∧ i_ + (kq : Int) = (a2.length : Int)) ∧ Aside0 (Kd.R Kd.string 9 w' w.heap.size (fun _ => True) (.slice Aa2 a2.length ca2) a2) ∧ Aside0 (Kd.R Kd.string 9 w' w.heap.size (fun _ => True) (.slice Ab2 b2.length cb2) b2) ∧ Aside0 (w'.heap[g5]? = some (.cells #[.bool lf, .slice Ab2 b2.length cb2, .slice Ab3 b3.length cb3, .slice Ab4 b4.length cb4] 25 (0, 0))) ∧ Aside0 (Below w.heap.size w w'))
  case atStart => exact ⟨0, rfl, ⟨by omega, by omega⟩, Ha2, Hb2, B5, HB⟩
  case round =>
    try clear g1_0
    try clear g1_1
    try clear g1_2
    try clear g1_3
    try clear g3_0
    try clear g3_1
    try clear g3_2
    try clear g3_3
    try clear g5_0
    try clear g5_1
    try clear g5_2
    try clear g5_3
    try clear g7_0
    try clear g7_1
    try clear g7_2
    try clear g7_3
    try clear g1f0
    try clear g1f1
    try clear g1f2
    try clear g1f3
    try clear g3f0
    try clear g3f1
    try clear g3f2
    try clear g3f3
    try clear g5f0
    try clear g5f1
    try clear g5f2
    try clear g5f3
    try clear g7f0
    try clear g7f1
    try clear g7f2
    try clear g7f3
    clear Ha2 Ha3 Ha4 Hb2 Hb3 Hb4 Hm2 Hm3 Hm4 B1 B3 B5 B7 HB
    obtain ⟨i_, rfl, HI, Ha2, Hb2, B5, HB⟩ := hrel
    by_cases ci : i_ < (a2.length : Int)
    case pos =>
      have ci0 : decide (i_ < (a2.length : Int)) = true := decide_eq_true (by omega)
      have ci1 : i_ < (a2.length : Int) := by omega
      have ci2 : (0 : Int) ≤ i_ := HI.out.1
      obtain ⟨ad, ead, hx⟩ := Kd.at_string (Kd.R_reads' Ha2.out).2.2 i_ ci2 ci1
      cases ead
      have lw := LOW.out _ (show rdOf ByteArray.empty a2 i_ ∈ a2 from rdOf_mem7 ci2 ci1)
      have ci3 := eq_true ci1
      have ci4 := eq_true ci2
      go_wp2
      repeat (go_quiet (fail); try go_wp2)
      go_roundg (gk - 1)
      case measure => have := HI.out; omega
      case rel => exact ⟨wrap64 (i_ + 1), (by first | rfl | (simp; done) | (simp [*]; done)), ⟨by rw [wrap64_at7 _ (by have := HI.out; have := HLA.out; omega)]; have := HI.out; omega, by rw [wrap64_at7 _ (by have := HI.out; have := HLA.out; omega)]; have := HI.out; omega⟩, Ha2, Hb2, B5, HB⟩
    case neg =>
      have ci0 : decide (i_ < (a2.length : Int)) = false := decide_eq_false (by omega)
      have g5_0 : wr.cell? ⟨g5, 0, none⟩ = some (.bool lf) := (blk_cell B5.out 0).trans rfl
      have g5_1 : wr.cell? ⟨g5, 1, none⟩ = some (.slice Ab2 b2.length cb2) := (blk_cell B5.out 1).trans rfl
      have g5_2 : wr.cell? ⟨g5, 2, none⟩ = some (.slice Ab3 b3.length cb3) := (blk_cell B5.out 2).trans rfl
      have g5_3 : wr.cell? ⟨g5, 3, none⟩ = some (.slice Ab4 b4.length cb4) := (blk_cell B5.out 3).trans rfl
      go_wp2
      repeat (go_quiet (fail); try go_wp2)
      clear ci0 ci
      go_loopg [82] b2.length (fun kq v82 w' => ∃ i_ : Int, v82 = .int .i64 i_ ∧ Aside0 (0 ≤ i_ ∧ i_ + (kq : Int) = (b2.length : Int)) ∧ Aside0 (Kd.R Kd.string 9 w' w.heap.size (fun _ => True) (.slice Ab2 b2.length cb2) b2) ∧ Aside0 (Below w.heap.size w w'))
      case atStart => exact ⟨0, rfl, ⟨by omega, by omega⟩, Hb2, HB⟩
      case round =>
        clear Ha2 Hb2 B5 HB HI
        obtain ⟨j_, rfl, HI, Hb2, HB⟩ := hrel
        by_cases ci : j_ < (b2.length : Int)
        case pos =>
          have ci0 : decide (j_ < (b2.length : Int)) = true := decide_eq_true (by omega)
          have ci1 : j_ < (b2.length : Int) := by omega
          have ci2 : (0 : Int) ≤ j_ := HI.out.1
          obtain ⟨ad, ead, hx⟩ := Kd.at_string (Kd.R_reads' Hb2.out).2.2 j_ ci2 ci1
          cases ead
          have lw := HIGH.out _ (show rdOf ByteArray.empty b2 j_ ∈ b2 from rdOf_mem7 ci2 ci1)
          have ci3 := eq_true ci1
          have ci4 := eq_true ci2
          go_wp2
          repeat (go_quiet (fail); try go_wp2)
          go_roundg (gk - 1)
          case measure => have := HI.out; omega
          case rel => exact ⟨wrap64 (j_ + 1), (by first | rfl | (simp; done) | (simp [*]; done)), ⟨by rw [wrap64_at7 _ (by have := HI.out; have := HLB.out; omega)]; have := HI.out; omega, by rw [wrap64_at7 _ (by have := HI.out; have := HLB.out; omega)]; have := HI.out; omega⟩, Hb2, HB⟩
        case neg =>
          have ci0 : decide (j_ < (b2.length : Int)) = false := decide_eq_false (by omega)
          go_wp2_with (go_at_call 13; refine (penelopelaw07_alive.calls k true _ TA.out).mono ?_; rintro e wz ⟨rfl, hb⟩; have XHB := Aside0.mk (below_step (by repeat (first | (with_reducible first | exact HB.out | apply below_alloc | apply pw_below_drewN | apply below_drew1) | exact HB.out)) hb); clear hb HB; have HB := XHB; clear XHB)
          go_ret
          exact ⟨rfl, HB.out⟩
end Go.Proofs.Ytmnkabdaapiikaa.C
