-- laid by a program of this session (wip/tools/xprint.py), function by function; Lean checks it
import Derived.Test.YtmnkabdaapiikaaXx0
import Derived.Test.YtmnkabdaapiikaaXx1
import Derived.Test.YtmnkabdaapiikaaXx2
import Derived.Test.YtmnkabdaapiikaaXx4
import Derived.Test.YtmnkabdaapiikaaXx10
import Derived.Test.YtmnkabdaapiikaaXx12
namespace Go.Proofs.Ytmnkabdaapiikaa.X
open Go.RowKit Go.Proofs.YtmnkabdaapiikaaW.PrintWords Go.Proofs.YtmnkabdaapiikaaW.PrintLast Go.Proofs.YtmnkabdaapiikaaW.PrintMore
attribute [local go_sem] max2_int min2_int max_two min_two max_three min_three max_four min_four   -- for this text's walks alone
set_option linter.unusedVariables false
set_option linter.unusedSimpArgs false

/-! ### penelopelaw07_NodeOrder: function 5 -/
mutual
def penelopelaw07_NodeOrder.j0 : Nat → ByteArray → Int → Bool → Bool → Bool → List ByteArray → List ByteArray → List Int → Option (Bool)
  | 0, _, _, _, _, _, _, _, _ => none
  | k + 1, x1, x5, x6, x30, x207000, x207001, x207002, x207003 => if x30 = true then (none) else (penelopelaw07_NodeOrder.l0 k x1 x5 x6 x207001 (x207001.length : Int) 0 x207000 x207001 x207002 x207003)
def penelopelaw07_NodeOrder.l0 : Nat → ByteArray → Int → Bool → List ByteArray → Int → Int → Bool → List ByteArray → List ByteArray → List Int → Option (Bool)
  | 0, _, _, _, _, _, _, _, _, _, _ => none
  | k + 1, x1, x5, x6, x32, x33, x34, x207000, x207001, x207002, x207003 => if x34 < x33 then (if 0 ≤ x34 then (if x34 < (x32.length : Int) then (if ((Op.bytesLess ((rdOf ByteArray.empty x32 x34).toList) x1.toList) != (decide (x34 < x5))) = true then (none) else (if (rdOf ByteArray.empty x32 x34).toList = x1.toList then (if x6 = true then (if x34 = x5 then (penelopelaw07_NodeOrder.l0 k x1 x5 x6 x32 x33 (wrap64 (x34 + 1)) x207000 x207001 x207002 x207003) else (none)) else (none)) else (penelopelaw07_NodeOrder.l0 k x1 x5 x6 x32 x33 (wrap64 (x34 + 1)) x207000 x207001 x207002 x207003))) else (none)) else (none)) else ((node_Kid.f k x207000 x207001 x207002 x207003 x1).bind fun t222 => (if x207000 = true then ((penelopelaw07_alive.f k).bind fun t223 => (if t223 = true then (some (t222 == 0)) else (none))) else (if x6 = true then ((penelopelaw07_alive.f k).bind fun t224 => (if t224 = true then (if t222 = (wrap64 (x5 + 1)) then (some (decide (t222 < (x207003.length : Int)))) else (none)) else (none))) else ((penelopelaw07_alive.f k).bind fun t225 => (if t225 = true then (if t222 = x5 then (some (decide (t222 < (x207003.length : Int)))) else (none)) else (none))))))
end
def penelopelaw07_NodeOrder.f (k : Nat) (a0_0 : Bool) (l0_1 : List ByteArray) (l0_2 : List ByteArray) (l0_3 : List Int) (a1 : ByteArray) : Option (Bool) := (penelopelaw07_few.f a0_0 l0_1 l0_2 l0_3).bind fun bt207 => ((peneloperef07_Stands.f k bt207.1 bt207.2.1 bt207.2.2.1 bt207.2.2.2).bind fun t217 => (if t217 = true then ((node_Find.f k bt207.1 bt207.2.1 bt207.2.2.1 bt207.2.2.2 a1).bind fun bt219 => (if bt219.1 < 0 then (penelopelaw07_NodeOrder.j0 k a1 bt219.1 bt219.2 true bt207.1 bt207.2.1 bt207.2.2.1 bt207.2.2.2) else (penelopelaw07_NodeOrder.j0 k a1 bt219.1 bt219.2 (decide (bt219.1 > (bt207.2.1.length : Int))) bt207.1 bt207.2.1 bt207.2.2.1 bt207.2.2.2))) else ((penelopelaw07_alive.f k).bind fun t218 => (some t218))))
theorem penelopelaw07_NodeOrder.mono_l : ∀ k, (∀ y0 y1 y2 y3 y4 y5 y6 y7, LeO (penelopelaw07_NodeOrder.j0 k y0 y1 y2 y3 y4 y5 y6 y7) (penelopelaw07_NodeOrder.j0 (k + 1) y0 y1 y2 y3 y4 y5 y6 y7)) ∧ (∀ y0 y1 y2 y3 y4 y5 y6 y7 y8 y9, LeO (penelopelaw07_NodeOrder.l0 k y0 y1 y2 y3 y4 y5 y6 y7 y8 y9) (penelopelaw07_NodeOrder.l0 (k + 1) y0 y1 y2 y3 y4 y5 y6 y7 y8 y9))
  | 0 => ⟨fun _ _ _ _ _ _ _ _ r h => by simp [penelopelaw07_NodeOrder.j0] at h, fun _ _ _ _ _ _ _ _ _ _ r h => by simp [penelopelaw07_NodeOrder.l0] at h⟩
  | k + 1 => by
    obtain ⟨ih0, ih1⟩ := penelopelaw07_NodeOrder.mono_l k
    refine ⟨?_, ?_⟩
    · intro y0 y1 y2 y3 y4 y5 y6 y7
      unfold penelopelaw07_NodeOrder.j0
      repeat' first
      | (with_reducible exact ih0 _ _ _ _ _ _ _ _)
      | (with_reducible exact ih1 _ _ _ _ _ _ _ _ _ _)
      | (with_reducible exact node_Find.mono _ _ _ _ _ _)
      | (with_reducible exact node_Kid.mono _ _ _ _ _ _)
      | (with_reducible exact penelopelaw07_alive.mono _)
      | (with_reducible exact peneloperef07_Stands.mono _ _ _ _ _)
      | (with_reducible exact LeO.refl _)
      | (with_reducible exact LeO.none _)
      | (with_reducible refine LeO.ite ?_ ?_)
      | (with_reducible refine LeO.bind ?_ (fun _ => ?_))
      | exact ih0 _ _ _ _ _ _ _ _
      | exact ih1 _ _ _ _ _ _ _ _ _ _
      | exact node_Find.mono _ _ _ _ _ _
      | exact node_Kid.mono _ _ _ _ _ _
      | exact penelopelaw07_alive.mono _
      | exact peneloperef07_Stands.mono _ _ _ _ _
      | exact LeO.none _
      | refine LeO.ite ?_ ?_
      | refine LeO.bind ?_ (fun _ => ?_)
    · intro y0 y1 y2 y3 y4 y5 y6 y7 y8 y9
      unfold penelopelaw07_NodeOrder.l0
      repeat' first
      | (with_reducible exact ih0 _ _ _ _ _ _ _ _)
      | (with_reducible exact ih1 _ _ _ _ _ _ _ _ _ _)
      | (with_reducible exact node_Find.mono _ _ _ _ _ _)
      | (with_reducible exact node_Kid.mono _ _ _ _ _ _)
      | (with_reducible exact penelopelaw07_alive.mono _)
      | (with_reducible exact peneloperef07_Stands.mono _ _ _ _ _)
      | (with_reducible exact LeO.refl _)
      | (with_reducible exact LeO.none _)
      | (with_reducible refine LeO.ite ?_ ?_)
      | (with_reducible refine LeO.bind ?_ (fun _ => ?_))
      | exact ih0 _ _ _ _ _ _ _ _
      | exact ih1 _ _ _ _ _ _ _ _ _ _
      | exact node_Find.mono _ _ _ _ _ _
      | exact node_Kid.mono _ _ _ _ _ _
      | exact penelopelaw07_alive.mono _
      | exact peneloperef07_Stands.mono _ _ _ _ _
      | exact LeO.none _
      | refine LeO.ite ?_ ?_
      | refine LeO.bind ?_ (fun _ => ?_)
theorem penelopelaw07_NodeOrder.mono : ∀ a0 a1 a2 a3 a4 k, LeO (penelopelaw07_NodeOrder.f k a0 a1 a2 a3 a4) (penelopelaw07_NodeOrder.f (k + 1) a0 a1 a2 a3 a4) := by
  intro a0 a1 a2 a3 a4 k
  obtain ⟨ih0, ih1⟩ := penelopelaw07_NodeOrder.mono_l k
  unfold penelopelaw07_NodeOrder.f
  repeat' first
      | (with_reducible exact ih0 _ _ _ _ _ _ _ _)
      | (with_reducible exact ih1 _ _ _ _ _ _ _ _ _ _)
      | (with_reducible exact node_Find.mono _ _ _ _ _ _)
      | (with_reducible exact node_Kid.mono _ _ _ _ _ _)
      | (with_reducible exact penelopelaw07_alive.mono _)
      | (with_reducible exact peneloperef07_Stands.mono _ _ _ _ _)
      | (with_reducible exact LeO.refl _)
      | (with_reducible exact LeO.none _)
      | (with_reducible refine LeO.ite ?_ ?_)
      | (with_reducible refine LeO.bind ?_ (fun _ => ?_))
      | exact ih0 _ _ _ _ _ _ _ _
      | exact ih1 _ _ _ _ _ _ _ _ _ _
      | exact node_Find.mono _ _ _ _ _ _
      | exact node_Kid.mono _ _ _ _ _ _
      | exact penelopelaw07_alive.mono _
      | exact peneloperef07_Stands.mono _ _ _ _ _
      | exact LeO.none _
      | refine LeO.ite ?_ ?_
      | refine LeO.bind ?_ (fun _ => ?_)
set_option maxHeartbeats 8000000 in
set_option maxRecDepth 100000 in
theorem penelopelaw07_NodeOrder.calls (k : Nat) (a0_0 : Bool) (A0_1 : Option Addr) (c0_1 : Nat) (l0_1 : List ByteArray) (A0_2 : Option Addr) (c0_2 : Nat) (l0_2 : List ByteArray) (A0_3 : Option Addr) (c0_3 : Nat) (l0_3 : List Int) (a1 : ByteArray) (r : Bool) (w : World) (hr0_1 : Kd.C Kd.string w A0_1 l0_1.length l0_1) (hc0_1 : l0_1.length ≤ c0_1) (hr0_2 : Kd.C Kd.string w A0_2 l0_2.length l0_2) (hc0_2 : l0_2.length ≤ c0_2) (hr0_3 : Kd.C (Kd.int .i64) w A0_3 l0_3.length l0_3) (hc0_3 : l0_3.length ≤ c0_3) (h : penelopelaw07_NodeOrder.f k a0_0 l0_1 l0_2 l0_3 a1 = some r) :
    Calls Try.prog 5 #[.agg #[.bool a0_0, .slice A0_1 l0_1.length c0_1, .slice A0_2 l0_2.length c0_2, .slice A0_3 l0_3.length c0_3], .string a1] w fun e w' => e = .returned (.bool r) ∧ Below w.heap.size w w' := by
  have hu25 := Try.underlying25
  have HR0_1 := Aside0.mk hr0_1
  have HC0_1 := Aside0.mk hc0_1
  clear hr0_1 hc0_1
  have HR0_2 := Aside0.mk hr0_2
  have HC0_2 := Aside0.mk hc0_2
  clear hr0_2 hc0_2
  have HR0_3 := Aside0.mk hr0_3
  have HC0_3 := Aside0.mk hc0_3
  clear hr0_3 hc0_3
  have HB := Aside0.mk (Below.refl w.heap.size w)
  have H : ((penelopelaw07_few.f a0_0 l0_1 l0_2 l0_3).bind fun bt207 => ((peneloperef07_Stands.f k bt207.1 bt207.2.1 bt207.2.2.1 bt207.2.2.2).bind fun t217 => (if t217 = true then ((node_Find.f k bt207.1 bt207.2.1 bt207.2.2.1 bt207.2.2.2 a1).bind fun bt219 => (if bt219.1 < 0 then (penelopelaw07_NodeOrder.j0 k a1 bt219.1 bt219.2 true bt207.1 bt207.2.1 bt207.2.2.1 bt207.2.2.2) else (penelopelaw07_NodeOrder.j0 k a1 bt219.1 bt219.2 (decide (bt219.1 > (bt207.2.1.length : Int))) bt207.1 bt207.2.1 bt207.2.2.1 bt207.2.2.2))) else ((penelopelaw07_alive.f k).bind fun t218 => (some t218))))) = some r := h
  clear h
  replace H := Option.bind_eq_some_iff.mp H
  obtain ⟨⟨t207, t208, t211, t214⟩, A30, H⟩ := H
  replace H : ((peneloperef07_Stands.f k t207 t208 t211 t214).bind fun t217 => (if t217 = true then ((node_Find.f k t207 t208 t211 t214 a1).bind fun bt219 => (if bt219.1 < 0 then (penelopelaw07_NodeOrder.j0 k a1 bt219.1 bt219.2 true t207 t208 t211 t214) else (penelopelaw07_NodeOrder.j0 k a1 bt219.1 bt219.2 (decide (bt219.1 > (t208.length : Int))) t207 t208 t211 t214))) else ((penelopelaw07_alive.f k).bind fun t218 => (some t218)))) = some r := H
  have A3 := Aside0.mk A30
  clear A30
  replace H := Option.bind_eq_some_iff.mp H
  obtain ⟨t217, A40, H⟩ := H
  replace H : (if t217 = true then ((node_Find.f k t207 t208 t211 t214 a1).bind fun bt219 => (if bt219.1 < 0 then (penelopelaw07_NodeOrder.j0 k a1 bt219.1 bt219.2 true t207 t208 t211 t214) else (penelopelaw07_NodeOrder.j0 k a1 bt219.1 bt219.2 (decide (bt219.1 > (t208.length : Int))) t207 t208 t211 t214))) else ((penelopelaw07_alive.f k).bind fun t218 => (some t218))) = some r := H
  have A4 := Aside0.mk A40
  clear A40
  by_cases c5 : t217 = true
  · subst c5
    have H1 : ((node_Find.f k t207 t208 t211 t214 a1).bind fun bt219 => (if bt219.1 < 0 then (penelopelaw07_NodeOrder.j0 k a1 bt219.1 bt219.2 true t207 t208 t211 t214) else (penelopelaw07_NodeOrder.j0 k a1 bt219.1 bt219.2 (decide (bt219.1 > (t208.length : Int))) t207 t208 t211 t214))) = some r := by rw [if_pos rfl] at H; exact H
    clear H
    have H := H1
    clear H1
    replace H := Option.bind_eq_some_iff.mp H
    obtain ⟨⟨t219, t220⟩, A60, H⟩ := H
    replace H : (if t219 < 0 then (penelopelaw07_NodeOrder.j0 k a1 t219 t220 true t207 t208 t211 t214) else (penelopelaw07_NodeOrder.j0 k a1 t219 t220 (decide (t219 > (t208.length : Int))) t207 t208 t211 t214)) = some r := H
    have A6 := Aside0.mk A60
    clear A60
    have HC7 := Aside0.mk H
    clear H
    go_enter Try.func5, Try.ntmps5
    go_upto_region 5 with (first | ((with_reducible refine gate_dst (N := 2) rfl ?_); (try (refine gate_guard (by rfl) ?_; dsimp only)); refine box_event ?hg (N := 2) ?hd (cs := #[.bool a0_0, .slice A0_1 l0_1.length c0_1, .slice A0_2 l0_2.length c0_2, .slice A0_3 l0_3.length c0_3]) (t := 25) ?hr ?_; (case hd => rfl); (case hg => rfl); (case hr => first | (go_simp; done) | (go_simp; rfl)); intro gb206 hg w8 hbox hb; have n0_ := Aside0.mk (below_step (by repeat (first | (with_reducible first | exact HB.out | apply below_alloc | apply pw_below_drewN | apply below_drew1) | exact HB.out)) hb); have n1_ := Aside0.mk (hbox); have n2_ := Aside0.mk ((by rw [hg]; exact (below_size (by repeat (first | (with_reducible first | exact HB.out | apply below_alloc | apply pw_below_drewN | apply below_drew1) | exact HB.out))) : w.heap.size ≤ gb206)); have n3_ := Aside0.mk ((by rw [hg]; exact (below_size (by repeat (first | (with_reducible first | exact HB.out | apply below_alloc | apply pw_below_drewN | apply below_drew1) | exact HB.out))) : w.heap.size ≤ gb206)); clear HB; have HB := n0_; have BK206 := n1_; have GW206 := n2_; have GE206 := n3_; clear n0_ n1_ n2_ n3_; clear hb hbox hg; have hcz9_0 : w8.cell? ⟨gb206, 0, none⟩ = some (.bool a0_0) := (blk_cell BK206.out 0).trans rfl; have hcz9_1 : w8.cell? ⟨gb206, 1, none⟩ = some (.slice A0_1 l0_1.length c0_1) := (blk_cell BK206.out 1).trans rfl; have hcz9_2 : w8.cell? ⟨gb206, 2, none⟩ = some (.slice A0_2 l0_2.length c0_2) := (blk_cell BK206.out 2).trans rfl; have hcz9_3 : w8.cell? ⟨gb206, 3, none⟩ = some (.slice A0_3 l0_3.length c0_3) := (blk_cell BK206.out 3).trans rfl; have hfz9_0 := blk_frozen BK206.out 0; have hfz9_1 := blk_frozen BK206.out 1; have hfz9_2 := blk_frozen BK206.out 2; have hfz9_3 := blk_frozen BK206.out 3) | ((with_reducible refine gate_callee (f := 10) rfl ?_); refine goesL_ (some 11) rfl rfl Try.func10 (by kernel_rfl) rfl #[.agg #[.bool a0_0, .slice A0_1 l0_1.length c0_1, .slice A0_2 l0_2.length c0_2, .slice A0_3 l0_3.length c0_3]] rfl (by (try simp only [List.map_toArray, List.map_cons, List.map_nil]); first | done | rfl | (simp only [List.length_drop, List.length_take]; rfl)) ?_; (with_reducible refine (penelopelaw07_few.calls a0_0 (fun k_ => k_ < w.heap.size) _ _ l0_1 (fun k_ => k_ < w.heap.size) _ _ l0_2 (fun k_ => k_ < w.heap.size) _ _ l0_3 t207 t208 t211 t214 _ ?side1 ?side2 ?side3 A3.out).mono ?_); (case side1 => exact Kd.V_mk HC0_1.out (Kd.F_below (Kd.C_F Kd.heap_string HR0_1.out) (by repeat (first | (with_reducible first | exact HB.out | apply below_alloc | apply pw_below_drewN | apply below_drew1 | refine below_set ?_ GE206.out) | exact HB.out)))); (case side2 => exact Kd.V_mk HC0_2.out (Kd.F_below (Kd.C_F Kd.heap_string HR0_2.out) (by repeat (first | (with_reducible first | exact HB.out | apply below_alloc | apply pw_below_drewN | apply below_drew1 | refine below_set ?_ GE206.out) | exact HB.out)))); (case side3 => exact Kd.V_mk HC0_3.out (Kd.F_below (Kd.C_F (Kd.heap_int .i64) HR0_3.out) (by repeat (first | (with_reducible first | exact HB.out | apply below_alloc | apply pw_below_drewN | apply below_drew1 | refine below_set ?_ GE206.out) | exact HB.out)))); rintro e w10 ⟨v209, v212, v215, rfl, ho0, ho1, ho2, hb⟩; refine ⟨_, rfl, ?_⟩; have n0_ := Aside0.mk (Kd.V_lower (Kd.V_mono (ok' := fun k_ => k_ ≠ gb206) ho0 (fun k_ hk_ => Or.elim hk_ (fun hs_ => Or.elim hs_ (fun hs_ => fun e_ => Nat.not_le.2 hs_ (by rw [e_]; exact GW206.out)) (fun hs_ => Or.elim hs_ (fun hs_ => fun e_ => Nat.not_le.2 hs_ (by rw [e_]; exact GW206.out)) (fun hs_ => fun e_ => Nat.not_le.2 hs_ (by rw [e_]; exact GW206.out)))) (fun hn_ => (Kd.freshB (g := gb206) (o := .cells #[.bool a0_0, .slice A0_1 l0_1.length c0_1, .slice A0_2 l0_2.length c0_2, .slice A0_3 l0_3.length c0_3] 25 (0, 0)) (by (with_reducible repeat (first | refine blk_drewN ?_ _ | refine blk_drew ?_ | refine blk_alloc ?_ _)); exact BK206.out) k_ hn_)))) (below_size (by repeat (first | (with_reducible first | exact HB.out | apply below_alloc | apply pw_below_drewN | apply below_drew1 | refine below_set ?_ GE206.out) | exact HB.out)))); have n1_ := Aside0.mk (Kd.V_lower (Kd.V_mono (ok' := fun k_ => k_ ≠ gb206) ho1 (fun k_ hk_ => Or.elim hk_ (fun hs_ => Or.elim hs_ (fun hs_ => fun e_ => Nat.not_le.2 hs_ (by rw [e_]; exact GW206.out)) (fun hs_ => Or.elim hs_ (fun hs_ => fun e_ => Nat.not_le.2 hs_ (by rw [e_]; exact GW206.out)) (fun hs_ => fun e_ => Nat.not_le.2 hs_ (by rw [e_]; exact GW206.out)))) (fun hn_ => (Kd.freshB (g := gb206) (o := .cells #[.bool a0_0, .slice A0_1 l0_1.length c0_1, .slice A0_2 l0_2.length c0_2, .slice A0_3 l0_3.length c0_3] 25 (0, 0)) (by (with_reducible repeat (first | refine blk_drewN ?_ _ | refine blk_drew ?_ | refine blk_alloc ?_ _)); exact BK206.out) k_ hn_)))) (below_size (by repeat (first | (with_reducible first | exact HB.out | apply below_alloc | apply pw_below_drewN | apply below_drew1 | refine below_set ?_ GE206.out) | exact HB.out)))); have n2_ := Aside0.mk (Kd.V_lower (Kd.V_mono (ok' := fun k_ => k_ ≠ gb206) ho2 (fun k_ hk_ => Or.elim hk_ (fun hs_ => Or.elim hs_ (fun hs_ => fun e_ => Nat.not_le.2 hs_ (by rw [e_]; exact GW206.out)) (fun hs_ => Or.elim hs_ (fun hs_ => fun e_ => Nat.not_le.2 hs_ (by rw [e_]; exact GW206.out)) (fun hs_ => fun e_ => Nat.not_le.2 hs_ (by rw [e_]; exact GW206.out)))) (fun hn_ => (Kd.freshB (g := gb206) (o := .cells #[.bool a0_0, .slice A0_1 l0_1.length c0_1, .slice A0_2 l0_2.length c0_2, .slice A0_3 l0_3.length c0_3] 25 (0, 0)) (by (with_reducible repeat (first | refine blk_drewN ?_ _ | refine blk_drew ?_ | refine blk_alloc ?_ _)); exact BK206.out) k_ hn_)))) (below_size (by repeat (first | (with_reducible first | exact HB.out | apply below_alloc | apply pw_below_drewN | apply below_drew1 | refine below_set ?_ GE206.out) | exact HB.out)))); have n3_ := Aside0.mk (blk_below (g := gb206) (o := .cells #[.bool a0_0, .slice A0_1 l0_1.length c0_1, .slice A0_2 l0_2.length c0_2, .slice A0_3 l0_3.length c0_3] 25 (0, 0)) (by (with_reducible repeat (first | refine blk_drewN ?_ _ | refine blk_drew ?_ | refine blk_alloc ?_ _)); exact BK206.out) hb); have n4_ := Aside0.mk (below_step (by repeat (first | (with_reducible first | exact HB.out | apply below_alloc | apply pw_below_drewN | apply below_drew1 | refine below_set ?_ GE206.out) | exact HB.out)) hb); clear BK206; clear HB; have HO210 := n0_; have HO213 := n1_; have HO216 := n2_; have BK206 := n3_; have HB := n4_; clear n0_ n1_ n2_ n3_ n4_; (try clear hb); (try clear hb2); (try clear hk); (try clear hi); (try clear ho0); (try clear ho1); (try clear ho2); have hcz11_0 : w10.cell? ⟨gb206, 0, none⟩ = some (.bool a0_0) := (blk_cell BK206.out 0).trans rfl; have hcz11_1 : w10.cell? ⟨gb206, 1, none⟩ = some (.slice A0_1 l0_1.length c0_1) := (blk_cell BK206.out 1).trans rfl; have hcz11_2 : w10.cell? ⟨gb206, 2, none⟩ = some (.slice A0_2 l0_2.length c0_2) := (blk_cell BK206.out 2).trans rfl; have hcz11_3 : w10.cell? ⟨gb206, 3, none⟩ = some (.slice A0_3 l0_3.length c0_3) := (blk_cell BK206.out 3).trans rfl; have hfz11_0 := blk_frozen BK206.out 0; have hfz11_1 := blk_frozen BK206.out 1; have hfz11_2 := blk_frozen BK206.out 2; have hfz11_3 := blk_frozen BK206.out 3; obtain ⟨Ao12, co12, eo12⟩ := Kd.V_slice HO210.out; subst eo12; obtain ⟨Ao13, co13, eo13⟩ := Kd.V_slice HO213.out; subst eo13; obtain ⟨Ao14, co14, eo14⟩ := Kd.V_slice HO216.out; subst eo14) | ((with_reducible refine gate_callee (f := 20) rfl ?_); refine goesL_ (some 13) rfl rfl Try.func20 (by kernel_rfl) rfl #[.agg #[.bool t207, .slice Ao12 t208.length co12, .slice Ao13 t211.length co13, .slice Ao14 t214.length co14]] rfl (by (try simp only [List.map_toArray, List.map_cons, List.map_nil]); first | done | rfl | (simp only [List.length_drop, List.length_take]; rfl)) ?_; (with_reducible refine (peneloperef07_Stands.calls k t207 _ _ t208 _ _ t211 _ _ t214 true _ ?side1 ?side2 ?side3 ?side4 ?side5 ?side6 A4.out).mono ?_); (case side1 => refine (Kd.V_reads' (e := 9) (base := w.heap.size) (ok := fun k_ => k_ ≠ gb206) (n := t208.length) (c := co12) ?_).2.2; exact (by (with_reducible repeat (first | apply Kd.V_alloc | apply Kd.V_drewN | apply Kd.V_drew)); exact (Kd.V_mono (Kd.V_far (p := ⟨gb206, 3, none⟩) (Kd.V_far (p := ⟨gb206, 2, none⟩) (Kd.V_far (p := ⟨gb206, 1, none⟩) (Kd.V_far (p := ⟨gb206, 0, none⟩) (Kd.V_mono HO210.out (fun k_ hk => (⟨hk, hk⟩ : _ ∧ k_ ≠ gb206))) (fun _ hk => hk.2) (.bool t207)) (fun _ hk => hk.2) (.slice Ao12 t208.length co12)) (fun _ hk => hk.2) (.slice Ao13 t211.length co13)) (fun _ hk => hk.2) (.slice Ao14 t214.length co14)) (fun _ h_ => h_.1)))); (case side2 => exact (Kd.V_reads' HO210.out).2.1); (case side3 => refine (Kd.V_reads' (e := 9) (base := w.heap.size) (ok := fun k_ => k_ ≠ gb206) (n := t211.length) (c := co13) ?_).2.2; exact (by (with_reducible repeat (first | apply Kd.V_alloc | apply Kd.V_drewN | apply Kd.V_drew)); exact (Kd.V_mono (Kd.V_far (p := ⟨gb206, 3, none⟩) (Kd.V_far (p := ⟨gb206, 2, none⟩) (Kd.V_far (p := ⟨gb206, 1, none⟩) (Kd.V_far (p := ⟨gb206, 0, none⟩) (Kd.V_mono HO213.out (fun k_ hk => (⟨hk, hk⟩ : _ ∧ k_ ≠ gb206))) (fun _ hk => hk.2) (.bool t207)) (fun _ hk => hk.2) (.slice Ao12 t208.length co12)) (fun _ hk => hk.2) (.slice Ao13 t211.length co13)) (fun _ hk => hk.2) (.slice Ao14 t214.length co14)) (fun _ h_ => h_.1)))); (case side4 => exact (Kd.V_reads' HO213.out).2.1); (case side5 => refine (Kd.V_reads' (e := 3) (base := w.heap.size) (ok := fun k_ => k_ ≠ gb206) (n := t214.length) (c := co14) ?_).2.2; exact (by (with_reducible repeat (first | apply Kd.V_alloc | apply Kd.V_drewN | apply Kd.V_drew)); exact (Kd.V_mono (Kd.V_far (p := ⟨gb206, 3, none⟩) (Kd.V_far (p := ⟨gb206, 2, none⟩) (Kd.V_far (p := ⟨gb206, 1, none⟩) (Kd.V_far (p := ⟨gb206, 0, none⟩) (Kd.V_mono HO216.out (fun k_ hk => (⟨hk, hk⟩ : _ ∧ k_ ≠ gb206))) (fun _ hk => hk.2) (.bool t207)) (fun _ hk => hk.2) (.slice Ao12 t208.length co12)) (fun _ hk => hk.2) (.slice Ao13 t211.length co13)) (fun _ hk => hk.2) (.slice Ao14 t214.length co14)) (fun _ h_ => h_.1)))); (case side6 => exact (Kd.V_reads' HO216.out).2.1); rintro e w15 ⟨rfl, hb⟩; refine ⟨_, rfl, ?_⟩; have n0_ := Aside0.mk (Kd.V_below (by (with_reducible repeat (first | apply Kd.V_alloc | apply Kd.V_drewN | apply Kd.V_drew)); exact (Kd.V_mono (Kd.V_far (p := ⟨gb206, 3, none⟩) (Kd.V_far (p := ⟨gb206, 2, none⟩) (Kd.V_far (p := ⟨gb206, 1, none⟩) (Kd.V_far (p := ⟨gb206, 0, none⟩) (Kd.V_mono HO210.out (fun k_ hk => (⟨hk, hk⟩ : _ ∧ k_ ≠ gb206))) (fun _ hk => hk.2) (.bool t207)) (fun _ hk => hk.2) (.slice Ao12 t208.length co12)) (fun _ hk => hk.2) (.slice Ao13 t211.length co13)) (fun _ hk => hk.2) (.slice Ao14 t214.length co14)) (fun _ h_ => h_.1))) hb); have n1_ := Aside0.mk (Kd.V_below (by (with_reducible repeat (first | apply Kd.V_alloc | apply Kd.V_drewN | apply Kd.V_drew)); exact (Kd.V_mono (Kd.V_far (p := ⟨gb206, 3, none⟩) (Kd.V_far (p := ⟨gb206, 2, none⟩) (Kd.V_far (p := ⟨gb206, 1, none⟩) (Kd.V_far (p := ⟨gb206, 0, none⟩) (Kd.V_mono HO213.out (fun k_ hk => (⟨hk, hk⟩ : _ ∧ k_ ≠ gb206))) (fun _ hk => hk.2) (.bool t207)) (fun _ hk => hk.2) (.slice Ao12 t208.length co12)) (fun _ hk => hk.2) (.slice Ao13 t211.length co13)) (fun _ hk => hk.2) (.slice Ao14 t214.length co14)) (fun _ h_ => h_.1))) hb); have n2_ := Aside0.mk (Kd.V_below (by (with_reducible repeat (first | apply Kd.V_alloc | apply Kd.V_drewN | apply Kd.V_drew)); exact (Kd.V_mono (Kd.V_far (p := ⟨gb206, 3, none⟩) (Kd.V_far (p := ⟨gb206, 2, none⟩) (Kd.V_far (p := ⟨gb206, 1, none⟩) (Kd.V_far (p := ⟨gb206, 0, none⟩) (Kd.V_mono HO216.out (fun k_ hk => (⟨hk, hk⟩ : _ ∧ k_ ≠ gb206))) (fun _ hk => hk.2) (.bool t207)) (fun _ hk => hk.2) (.slice Ao12 t208.length co12)) (fun _ hk => hk.2) (.slice Ao13 t211.length co13)) (fun _ hk => hk.2) (.slice Ao14 t214.length co14)) (fun _ h_ => h_.1))) hb); have n3_ := Aside0.mk (blk_below (g := gb206) (o := .cells #[.bool t207, .slice Ao12 t208.length co12, .slice Ao13 t211.length co13, .slice Ao14 t214.length co14] 25 (0, 0)) (by (with_reducible repeat (first | refine blk_drewN ?_ _ | refine blk_drew ?_ | refine blk_alloc ?_ _)); refine blk_put (cs := #[.bool t207, .slice Ao12 t208.length co12, .slice Ao13 t211.length co13, .slice A0_3 l0_3.length c0_3]) ?_ 3 _ rfl; (with_reducible repeat (first | refine blk_drewN ?_ _ | refine blk_drew ?_ | refine blk_alloc ?_ _)); refine blk_put (cs := #[.bool t207, .slice Ao12 t208.length co12, .slice A0_2 l0_2.length c0_2, .slice A0_3 l0_3.length c0_3]) ?_ 2 _ rfl; (with_reducible repeat (first | refine blk_drewN ?_ _ | refine blk_drew ?_ | refine blk_alloc ?_ _)); refine blk_put (cs := #[.bool t207, .slice A0_1 l0_1.length c0_1, .slice A0_2 l0_2.length c0_2, .slice A0_3 l0_3.length c0_3]) ?_ 1 _ rfl; (with_reducible repeat (first | refine blk_drewN ?_ _ | refine blk_drew ?_ | refine blk_alloc ?_ _)); refine blk_put (cs := #[.bool a0_0, .slice A0_1 l0_1.length c0_1, .slice A0_2 l0_2.length c0_2, .slice A0_3 l0_3.length c0_3]) ?_ 0 _ rfl; (with_reducible repeat (first | refine blk_drewN ?_ _ | refine blk_drew ?_ | refine blk_alloc ?_ _)); exact BK206.out) hb); have n4_ := Aside0.mk (below_step (by repeat (first | (with_reducible first | exact HB.out | apply below_alloc | apply pw_below_drewN | apply below_drew1 | refine below_set ?_ GE206.out) | exact HB.out)) hb); clear HO210; clear HO213; clear HO216; clear BK206; clear HB; have HO210 := n0_; have HO213 := n1_; have HO216 := n2_; have BK206 := n3_; have HB := n4_; clear n0_ n1_ n2_ n3_ n4_; (try clear hb); (try clear hb2); (try clear hk); (try clear hi); have hcz16_0 : w15.cell? ⟨gb206, 0, none⟩ = some (.bool t207) := (blk_cell BK206.out 0).trans rfl; have hcz16_1 : w15.cell? ⟨gb206, 1, none⟩ = some (.slice Ao12 t208.length co12) := (blk_cell BK206.out 1).trans rfl; have hcz16_2 : w15.cell? ⟨gb206, 2, none⟩ = some (.slice Ao13 t211.length co13) := (blk_cell BK206.out 2).trans rfl; have hcz16_3 : w15.cell? ⟨gb206, 3, none⟩ = some (.slice Ao14 t214.length co14) := (blk_cell BK206.out 3).trans rfl; have hfz16_0 := blk_frozen BK206.out 0; have hfz16_1 := blk_frozen BK206.out 1; have hfz16_2 := blk_frozen BK206.out 2; have hfz16_3 := blk_frozen BK206.out 3) | ((with_reducible refine gate_callee (f := 16) rfl ?_); refine goesL_ (some 19) rfl rfl Try.func16 (by kernel_rfl) rfl #[.agg #[.bool t207, .slice Ao12 t208.length co12, .slice Ao13 t211.length co13, .slice Ao14 t214.length co14], .string a1] rfl (by (try simp only [List.map_toArray, List.map_cons, List.map_nil]); first | done | rfl | (simp only [List.length_drop, List.length_take]; rfl)) ?_; (with_reducible refine (node_Find.calls k t207 _ _ t208 _ _ t211 _ _ t214 a1 t219 t220 _ ?side1 ?side2 ?side3 ?side4 ?side5 ?side6 A6.out).mono ?_); (case side1 => repeat (first | exact (Kd.V_reads' HO210.out).2.2 | (with_reducible refine Kd.C_alloc ?_ _) | (with_reducible refine Kd.C_drewN ?_ _) | (with_reducible refine Kd.C_drew ?_))); (case side2 => exact (Kd.V_reads' HO210.out).2.1); (case side3 => repeat (first | exact (Kd.V_reads' HO213.out).2.2 | (with_reducible refine Kd.C_alloc ?_ _) | (with_reducible refine Kd.C_drewN ?_ _) | (with_reducible refine Kd.C_drew ?_))); (case side4 => exact (Kd.V_reads' HO213.out).2.1); (case side5 => repeat (first | exact (Kd.V_reads' HO216.out).2.2 | (with_reducible refine Kd.C_alloc ?_ _) | (with_reducible refine Kd.C_drewN ?_ _) | (with_reducible refine Kd.C_drew ?_))); (case side6 => exact (Kd.V_reads' HO216.out).2.1); rintro e w17 ⟨rfl, hb⟩; refine ⟨_, rfl, ?_⟩; have n0_ := Aside0.mk (Kd.V_below (by (with_reducible repeat (first | apply Kd.V_alloc | apply Kd.V_drewN | apply Kd.V_drew)); exact HO210.out) hb); have n1_ := Aside0.mk (Kd.V_below (by (with_reducible repeat (first | apply Kd.V_alloc | apply Kd.V_drewN | apply Kd.V_drew)); exact HO213.out) hb); have n2_ := Aside0.mk (Kd.V_below (by (with_reducible repeat (first | apply Kd.V_alloc | apply Kd.V_drewN | apply Kd.V_drew)); exact HO216.out) hb); have n3_ := Aside0.mk (blk_below (g := gb206) (o := .cells #[.bool t207, .slice Ao12 t208.length co12, .slice Ao13 t211.length co13, .slice Ao14 t214.length co14] 25 (0, 0)) (by (with_reducible repeat (first | refine blk_drewN ?_ _ | refine blk_drew ?_ | refine blk_alloc ?_ _)); exact BK206.out) hb); have n4_ := Aside0.mk (below_step (by repeat (first | (with_reducible first | exact HB.out | apply below_alloc | apply pw_below_drewN | apply below_drew1 | refine below_set ?_ GE206.out) | exact HB.out)) hb); clear HO210; clear HO213; clear HO216; clear BK206; clear HB; have HO210 := n0_; have HO213 := n1_; have HO216 := n2_; have BK206 := n3_; have HB := n4_; clear n0_ n1_ n2_ n3_ n4_; (try clear hb); (try clear hb2); (try clear hk); (try clear hi)))
    (try simp only [Act.put, List.setIfInBounds_toArray, List.set_cons_zero, List.set_cons_succ])
    go_cut [30] (fun v30 wc => ∃ (kq : Nat) (x30_6 : Bool), v30 = .bool x30_6 ∧ Aside0 (penelopelaw07_NodeOrder.j0 kq a1 t219 t220 x30_6 t207 t208 t211 t214 = some r) ∧ Aside0 (kq ≤ k) ∧ Aside0 (Kd.V Kd.string 9 wc w.heap.size (fun k_ => k_ ≠ gb206) (.slice Ao12 t208.length co12) t208) ∧ Aside0 (Kd.V Kd.string 9 wc w.heap.size (fun k_ => k_ ≠ gb206) (.slice Ao13 t211.length co13) t211) ∧ Aside0 (Kd.V (Kd.int .i64) 3 wc w.heap.size (fun k_ => k_ ≠ gb206) (.slice Ao14 t214.length co14) t214) ∧ Aside0 (wc.heap[gb206]? = some (.cells #[.bool t207, (.slice Ao12 t208.length co12), (.slice Ao13 t211.length co13), (.slice Ao14 t214.length co14)] 25 (0, 0))) ∧ Aside0 (Below w.heap.size w wc))
    case first =>
      have H := HC7.out
      clear HC7
      by_cases c18 : t219 < 0
      · rw [if_pos c18] at H
        have c18b0 : decide (t219 < 0) = true := decide_eq_true c18
        clear c18
        (first | rw [c18b0] | (simp only [i64_w, i32_w]; rw [c18b0]) | skip)
        have H' := Aside0.mk H
        clear H
        go_wp2
        go_meet
        case rel => exact ⟨_, (true), (by first | rfl | (simp; done) | (simp [*]; done)), H', ⟨by first | omega | exact Nat.le_refl _⟩, ⟨by (with_reducible repeat (first | apply Kd.V_alloc | apply Kd.V_drewN | apply Kd.V_drew)); exact HO210.out⟩, ⟨by (with_reducible repeat (first | apply Kd.V_alloc | apply Kd.V_drewN | apply Kd.V_drew)); exact HO213.out⟩, ⟨by (with_reducible repeat (first | apply Kd.V_alloc | apply Kd.V_drewN | apply Kd.V_drew)); exact HO216.out⟩, ⟨by (with_reducible repeat (first | refine blk_drewN ?_ _ | refine blk_drew ?_ | refine blk_alloc ?_ _)); exact BK206.out⟩, ⟨by repeat (first | (with_reducible first | exact HB.out | apply below_alloc | apply pw_below_drewN | apply below_drew1 | refine below_set ?_ GE206.out) | exact HB.out)⟩⟩
      · rw [if_neg c18] at H
        have c18b0 : decide (t219 < 0) = false := decide_eq_false c18
        clear c18
        (first | rw [c18b0] | (simp only [i64_w, i32_w]; rw [c18b0]) | skip)
        have H' := Aside0.mk H
        clear H
        have hcz19_0 : w17.cell? ⟨gb206, 0, none⟩ = some (.bool t207) := (blk_cell BK206.out 0).trans rfl
        have hcz19_1 : w17.cell? ⟨gb206, 1, none⟩ = some (.slice Ao12 t208.length co12) := (blk_cell BK206.out 1).trans rfl
        have hcz19_2 : w17.cell? ⟨gb206, 2, none⟩ = some (.slice Ao13 t211.length co13) := (blk_cell BK206.out 2).trans rfl
        have hcz19_3 : w17.cell? ⟨gb206, 3, none⟩ = some (.slice Ao14 t214.length co14) := (blk_cell BK206.out 3).trans rfl
        have hfz19_0 := blk_frozen BK206.out 0
        have hfz19_1 := blk_frozen BK206.out 1
        have hfz19_2 := blk_frozen BK206.out 2
        have hfz19_3 := blk_frozen BK206.out 3
        go_wp2
        go_meet
        case rel => exact ⟨_, (decide (t219 > (t208.length : Int))), (by first | rfl | (simp; done) | (simp [*]; done)), H', ⟨by first | omega | exact Nat.le_refl _⟩, ⟨by (with_reducible repeat (first | apply Kd.V_alloc | apply Kd.V_drewN | apply Kd.V_drew)); exact HO210.out⟩, ⟨by (with_reducible repeat (first | apply Kd.V_alloc | apply Kd.V_drewN | apply Kd.V_drew)); exact HO213.out⟩, ⟨by (with_reducible repeat (first | apply Kd.V_alloc | apply Kd.V_drewN | apply Kd.V_drew)); exact HO216.out⟩, ⟨by (with_reducible repeat (first | refine blk_drewN ?_ _ | refine blk_drew ?_ | refine blk_alloc ?_ _)); exact BK206.out⟩, ⟨by repeat (first | (with_reducible first | exact HB.out | apply below_alloc | apply pw_below_drewN | apply below_drew1 | refine below_set ?_ GE206.out) | exact HB.out)⟩⟩
    case rest =>
      clear HC7
      try clear c1
      try clear c2
      try clear p2
      try clear c5
      try clear c10
      try clear c16
      try clear c18
      try clear c18b0
      try clear hcz11_0
      try clear hcz11_1
      try clear hcz11_2
      try clear hcz11_3
      try clear hcz16_0
      try clear hcz16_1
      try clear hcz16_2
      try clear hcz16_3
      try clear hcz19_0
      try clear hcz19_1
      try clear hcz19_2
      try clear hcz19_3
      try clear hcz9_0
      try clear hcz9_1
      try clear hcz9_2
      try clear hcz9_3
      try clear hfz11_0
      try clear hfz11_1
      try clear hfz11_2
      try clear hfz11_3
      try clear hfz16_0
      try clear hfz16_1
      try clear hfz16_2
      try clear hfz16_3
      try clear hfz19_0
      try clear hfz19_1
      try clear hfz19_2
      try clear hfz19_3
      try clear hfz9_0
      try clear hfz9_1
      try clear hfz9_2
      try clear hfz9_3
      obtain ⟨kq, x30_6, rfl, HA, HJ6, HO_207001, HO_207002, HO_207003, BK206, HB⟩ := hcut
      cases kq with
      | zero => exact absurd HA.out (by simp [penelopelaw07_NodeOrder.j0])
      | succ kj6 =>
        have H := HA.out
        clear HA
        simp only [penelopelaw07_NodeOrder.j0] at H
        by_cases c20 : x30_6 = true
        · subst c20
          have H1 : (none) = some r := by rw [if_pos rfl] at H; exact H
          clear H
          have H := H1
          clear H1
          exact absurd H (by simp)
        · replace c20 := Bool.eq_false_iff.mpr c20
          subst c20
          have H1 : (penelopelaw07_NodeOrder.l0 kj6 a1 t219 t220 t208 (t208.length : Int) 0 t207 t208 t211 t214) = some r := by rw [if_neg (show ¬ (false = true) by decide)] at H; exact H
          clear H
          have H := H1
          clear H1
          have H' := Aside0.mk H
          clear H
          have hcz21_0 : wc.cell? ⟨gb206, 0, none⟩ = some (.bool t207) := (blk_cell BK206.out 0).trans rfl
          have hcz21_1 : wc.cell? ⟨gb206, 1, none⟩ = some (.slice Ao12 t208.length co12) := (blk_cell BK206.out 1).trans rfl
          have hcz21_2 : wc.cell? ⟨gb206, 2, none⟩ = some (.slice Ao13 t211.length co13) := (blk_cell BK206.out 2).trans rfl
          have hcz21_3 : wc.cell? ⟨gb206, 3, none⟩ = some (.slice Ao14 t214.length co14) := (blk_cell BK206.out 3).trans rfl
          have hfz21_0 := blk_frozen BK206.out 0
          have hfz21_1 := blk_frozen BK206.out 1
          have hfz21_2 := blk_frozen BK206.out 2
          have hfz21_3 := blk_frozen BK206.out 3
          go_wp2
          go_loopg [34] kj6 (fun kq v34 w' => ∃ (x34_2 : Int), v34 = .int .i64 x34_2 ∧ Aside0 (penelopelaw07_NodeOrder.l0 kq a1 t219 t220 t208 (t208.length : Int) x34_2 t207 t208 t211 t214 = some r) ∧ Aside0 (kq ≤ kj6) ∧ Aside0 (Kd.V Kd.string 9 w' w.heap.size (fun k_ => k_ ≠ gb206) (.slice Ao12 t208.length co12) t208) ∧ Aside0 (Kd.V Kd.string 9 w' w.heap.size (fun k_ => k_ ≠ gb206) (.slice Ao12 t208.length co12) t208) ∧ Aside0 (Kd.V Kd.string 9 w' w.heap.size (fun k_ => k_ ≠ gb206) (.slice Ao13 t211.length co13) t211) ∧ Aside0 (Kd.V (Kd.int .i64) 3 w' w.heap.size (fun k_ => k_ ≠ gb206) (.slice Ao14 t214.length co14) t214) ∧ Aside0 (w'.heap[gb206]? = some (.cells #[.bool t207, (.slice Ao12 t208.length co12), (.slice Ao13 t211.length co13), (.slice Ao14 t214.length co14)] 25 (0, 0))) ∧ Aside0 (Below w.heap.size w w'))
          case atStart => exact ⟨(0), (by first | rfl | (simp; done) | (simp [*]; done)), H', ⟨Nat.le_refl _⟩, ⟨by (with_reducible repeat (first | apply Kd.V_alloc | apply Kd.V_drewN | apply Kd.V_drew)); exact HO_207001.out⟩, ⟨by (with_reducible repeat (first | apply Kd.V_alloc | apply Kd.V_drewN | apply Kd.V_drew)); exact HO_207001.out⟩, ⟨by (with_reducible repeat (first | apply Kd.V_alloc | apply Kd.V_drewN | apply Kd.V_drew)); exact HO_207002.out⟩, ⟨by (with_reducible repeat (first | apply Kd.V_alloc | apply Kd.V_drewN | apply Kd.V_drew)); exact HO_207003.out⟩, ⟨by (with_reducible repeat (first | refine blk_drewN ?_ _ | refine blk_drew ?_ | refine blk_alloc ?_ _)); exact BK206.out⟩, ⟨by repeat (first | (with_reducible first | exact HB.out | apply below_alloc | apply pw_below_drewN | apply below_drew1 | refine below_set ?_ GE206.out) | exact HB.out)⟩⟩
          case round =>
            clear H'
            try clear c1
            try clear c2
            try clear p2
            try clear c5
            try clear c10
            try clear c16
            try clear c18
            try clear c18b0
            try clear c20
            try clear hcz11_0
            try clear hcz11_1
            try clear hcz11_2
            try clear hcz11_3
            try clear hcz16_0
            try clear hcz16_1
            try clear hcz16_2
            try clear hcz16_3
            try clear hcz19_0
            try clear hcz19_1
            try clear hcz19_2
            try clear hcz19_3
            try clear hcz21_0
            try clear hcz21_1
            try clear hcz21_2
            try clear hcz21_3
            try clear hcz9_0
            try clear hcz9_1
            try clear hcz9_2
            try clear hcz9_3
            try clear hfz11_0
            try clear hfz11_1
            try clear hfz11_2
            try clear hfz11_3
            try clear hfz16_0
            try clear hfz16_1
            try clear hfz16_2
            try clear hfz16_3
            try clear hfz19_0
            try clear hfz19_1
            try clear hfz19_2
            try clear hfz19_3
            try clear hfz21_0
            try clear hfz21_1
            try clear hfz21_2
            try clear hfz21_3
            try clear hfz9_0
            try clear hfz9_1
            try clear hfz9_2
            try clear hfz9_3
            try clear p2
            obtain ⟨x34_2, rfl, HA, HK2, HO_32, HO_207001, HO_207002, HO_207003, BK206, HB⟩ := hrel
            cases gk with
            | zero => exact absurd HA.out (by simp [penelopelaw07_NodeOrder.l0])
            | succ k2 =>
              have H := HA.out
              clear HA
              simp only [penelopelaw07_NodeOrder.l0] at H
              by_cases c22 : x34_2 < (t208.length : Int)
              · rw [if_pos c22] at H
                have c22b0 : decide (x34_2 < (t208.length : Int)) = true := decide_eq_true c22
                clear c22
                by_cases c23 : 0 ≤ x34_2
                · rw [if_pos c23] at H
                  have c23b0 : decide (0 ≤ x34_2) = true := decide_eq_true c23
                  clear c23
                  by_cases c24 : x34_2 < (t208.length : Int)
                  · rw [if_pos c24] at H
                    have c24b0 : decide (x34_2 < (t208.length : Int)) = true := decide_eq_true c24
                    clear c24
                    by_cases c25 : ((Op.bytesLess ((rdOf ByteArray.empty t208 x34_2).toList) a1.toList) != (decide (x34_2 < t219))) = true
                    · rw [if_pos c25] at H
                      exact absurd H (by simp)
                    · rw [if_neg c25] at H
                      have c25b0 : ((Op.bytesLess ((rdOf ByteArray.empty t208 x34_2).toList) a1.toList) != (decide (x34_2 < t219))) = false := by simpa using c25
                      (try (have c25b1 : decide ((Op.bytesLess ((rdOf ByteArray.empty t208 x34_2).toList) a1.toList) = (decide (x34_2 < t219))) = true := by simpa using c25))
                      (try (have c25b2 : ((Op.bytesLess ((rdOf ByteArray.empty t208 x34_2).toList) a1.toList) == (decide (x34_2 < t219))) = true := by simpa using c25))
                      clear c25
                      by_cases c26 : (rdOf ByteArray.empty t208 x34_2).toList = a1.toList
                      · rw [if_pos c26] at H
                        have c26b0 : ((rdOf ByteArray.empty t208 x34_2).toList == a1.toList) = true := beq_iff_eq.mpr c26
                        have c26b1 : ((rdOf ByteArray.empty t208 x34_2).toList != a1.toList) = false := bne_eq_false_iff_eq.mpr c26
                        clear c26
                        by_cases c27 : t220 = true
                        · subst c27
                          have H1 : (if x34_2 = t219 then (penelopelaw07_NodeOrder.l0 k2 a1 t219 true t208 (t208.length : Int) (wrap64 (x34_2 + 1)) t207 t208 t211 t214) else (none)) = some r := by rw [if_pos rfl] at H; exact H
                          clear H
                          have H := H1
                          clear H1
                          by_cases c28 : x34_2 = t219
                          · rw [if_pos c28] at H
                            have c28b0 : (x34_2 == t219) = true := beq_iff_eq.mpr c28
                            have c28b1 : (x34_2 != t219) = false := bne_eq_false_iff_eq.mpr c28
                            clear c28
                            have H' := Aside0.mk H
                            clear H
                            have p221 : 0 ≤ (x34_2 : Int) := of_decide_eq_true (by first | (with_reducible assumption) | assumption)
                            have q221 : x34_2 < (t208.length : Int) := of_decide_eq_true (by first | (with_reducible assumption) | assumption)
                            obtain ⟨ad221, e221, hx221_0⟩ := Kd.at_string (Kd.V_reads' HO_32.out).2.2 x34_2 p221 q221
                            cases e221
                            replace p221 := eq_true p221
                            replace q221 := eq_true q221
                            go_wp2
                            go_roundg k2
                            case measure => have := HJ6.out; have := HK2.out; omega
                            case rel => exact ⟨(wrap64 (x34_2 + 1)), (by first | rfl | (simp; done) | (simp [*]; done)), H', ⟨by have := HJ6.out; have := HK2.out; omega⟩, ⟨by (with_reducible repeat (first | apply Kd.V_alloc | apply Kd.V_drewN | apply Kd.V_drew)); exact HO_32.out⟩, ⟨by (with_reducible repeat (first | apply Kd.V_alloc | apply Kd.V_drewN | apply Kd.V_drew)); exact HO_207001.out⟩, ⟨by (with_reducible repeat (first | apply Kd.V_alloc | apply Kd.V_drewN | apply Kd.V_drew)); exact HO_207002.out⟩, ⟨by (with_reducible repeat (first | apply Kd.V_alloc | apply Kd.V_drewN | apply Kd.V_drew)); exact HO_207003.out⟩, ⟨by (with_reducible repeat (first | refine blk_drewN ?_ _ | refine blk_drew ?_ | refine blk_alloc ?_ _)); exact BK206.out⟩, ⟨by repeat (first | (with_reducible first | exact HB.out | apply below_alloc | apply pw_below_drewN | apply below_drew1 | refine below_set ?_ GE206.out) | exact HB.out)⟩⟩
                          · rw [if_neg c28] at H
                            exact absurd H (by simp)
                        · replace c27 := Bool.eq_false_iff.mpr c27
                          subst c27
                          have H1 : (none) = some r := by rw [if_neg (show ¬ (false = true) by decide)] at H; exact H
                          clear H
                          have H := H1
                          clear H1
                          exact absurd H (by simp)
                      · rw [if_neg c26] at H
                        have c26b0 : ((rdOf ByteArray.empty t208 x34_2).toList == a1.toList) = false := beq_eq_false_iff_ne.mpr c26
                        have c26b1 : ((rdOf ByteArray.empty t208 x34_2).toList != a1.toList) = true := bne_iff_ne.mpr c26
                        have H' := Aside0.mk H
                        clear H
                        have p221 : 0 ≤ (x34_2 : Int) := of_decide_eq_true (by first | (with_reducible assumption) | assumption)
                        have q221 : x34_2 < (t208.length : Int) := of_decide_eq_true (by first | (with_reducible assumption) | assumption)
                        obtain ⟨ad221, e221, hx221_0⟩ := Kd.at_string (Kd.V_reads' HO_32.out).2.2 x34_2 p221 q221
                        cases e221
                        replace p221 := eq_true p221
                        replace q221 := eq_true q221
                        go_wp2
                        go_roundg k2
                        case measure => have := HJ6.out; have := HK2.out; omega
                        case rel => exact ⟨(wrap64 (x34_2 + 1)), (by first | rfl | (simp; done) | (simp [*]; done)), H', ⟨by have := HJ6.out; have := HK2.out; omega⟩, ⟨by (with_reducible repeat (first | apply Kd.V_alloc | apply Kd.V_drewN | apply Kd.V_drew)); exact HO_32.out⟩, ⟨by (with_reducible repeat (first | apply Kd.V_alloc | apply Kd.V_drewN | apply Kd.V_drew)); exact HO_207001.out⟩, ⟨by (with_reducible repeat (first | apply Kd.V_alloc | apply Kd.V_drewN | apply Kd.V_drew)); exact HO_207002.out⟩, ⟨by (with_reducible repeat (first | apply Kd.V_alloc | apply Kd.V_drewN | apply Kd.V_drew)); exact HO_207003.out⟩, ⟨by (with_reducible repeat (first | refine blk_drewN ?_ _ | refine blk_drew ?_ | refine blk_alloc ?_ _)); exact BK206.out⟩, ⟨by repeat (first | (with_reducible first | exact HB.out | apply below_alloc | apply pw_below_drewN | apply below_drew1 | refine below_set ?_ GE206.out) | exact HB.out)⟩⟩
                  · rw [if_neg c24] at H
                    exact absurd H (by simp)
                · rw [if_neg c23] at H
                  exact absurd H (by simp)
              · rw [if_neg c22] at H
                have c22b0 : decide (x34_2 < (t208.length : Int)) = false := decide_eq_false c22
                clear c22
                replace H := Option.bind_eq_some_iff.mp H
                obtain ⟨t222, A290, H⟩ := H
                replace H : (if t207 = true then ((penelopelaw07_alive.f k2).bind fun t223 => (if t223 = true then (some (t222 == 0)) else (none))) else (if t220 = true then ((penelopelaw07_alive.f k2).bind fun t224 => (if t224 = true then (if t222 = (wrap64 (t219 + 1)) then (some (decide (t222 < (t214.length : Int)))) else (none)) else (none))) else ((penelopelaw07_alive.f k2).bind fun t225 => (if t225 = true then (if t222 = t219 then (some (decide (t222 < (t214.length : Int)))) else (none)) else (none))))) = some r := H
                have A29 := Aside0.mk A290
                clear A290
                by_cases c30 : t207 = true
                · subst c30
                  have H1 : ((penelopelaw07_alive.f k2).bind fun t223 => (if t223 = true then (some (t222 == 0)) else (none))) = some r := by rw [if_pos rfl] at H; exact H
                  clear H
                  have H := H1
                  clear H1
                  replace H := Option.bind_eq_some_iff.mp H
                  obtain ⟨t223, A310, H⟩ := H
                  replace H : (if t223 = true then (some (t222 == 0)) else (none)) = some r := H
                  have A31 := Aside0.mk A310
                  clear A310
                  by_cases c32 : t223 = true
                  · subst c32
                    have H1 : (some (t222 == 0)) = some r := by rw [if_pos rfl] at H; exact H
                    clear H
                    have H := H1
                    clear H1
                    obtain rfl := Option.some.inj H
                    have hcz33_0 : wr.cell? ⟨gb206, 0, none⟩ = some (.bool true) := (blk_cell BK206.out 0).trans rfl
                    have hcz33_1 : wr.cell? ⟨gb206, 1, none⟩ = some (.slice Ao12 t208.length co12) := (blk_cell BK206.out 1).trans rfl
                    have hcz33_2 : wr.cell? ⟨gb206, 2, none⟩ = some (.slice Ao13 t211.length co13) := (blk_cell BK206.out 2).trans rfl
                    have hcz33_3 : wr.cell? ⟨gb206, 3, none⟩ = some (.slice Ao14 t214.length co14) := (blk_cell BK206.out 3).trans rfl
                    have hfz33_0 := blk_frozen BK206.out 0
                    have hfz33_1 := blk_frozen BK206.out 1
                    have hfz33_2 := blk_frozen BK206.out 2
                    have hfz33_3 := blk_frozen BK206.out 3
                    go_wp2_with (first | ((with_reducible refine gate_callee (f := 18) rfl ?_); refine goesL_ (some 63) rfl rfl Try.func18 (by kernel_rfl) rfl #[.agg #[.bool true, .slice Ao12 t208.length co12, .slice Ao13 t211.length co13, .slice Ao14 t214.length co14], .string a1] rfl (by (try simp only [List.map_toArray, List.map_cons, List.map_nil]); first | done | rfl | (simp only [List.length_drop, List.length_take]; rfl)) ?_; (with_reducible refine (node_Kid.calls k2 true _ _ t208 _ _ t211 _ _ t214 a1 t222 _ ?side1 ?side2 ?side3 ?side4 ?side5 ?side6 A29.out).mono ?_); (case side1 => repeat (first | exact (Kd.V_reads' HO_207001.out).2.2 | (with_reducible refine Kd.C_alloc ?_ _) | (with_reducible refine Kd.C_drewN ?_ _) | (with_reducible refine Kd.C_drew ?_))); (case side2 => exact (Kd.V_reads' HO_207001.out).2.1); (case side3 => repeat (first | exact (Kd.V_reads' HO_207002.out).2.2 | (with_reducible refine Kd.C_alloc ?_ _) | (with_reducible refine Kd.C_drewN ?_ _) | (with_reducible refine Kd.C_drew ?_))); (case side4 => exact (Kd.V_reads' HO_207002.out).2.1); (case side5 => repeat (first | exact (Kd.V_reads' HO_207003.out).2.2 | (with_reducible refine Kd.C_alloc ?_ _) | (with_reducible refine Kd.C_drewN ?_ _) | (with_reducible refine Kd.C_drew ?_))); (case side6 => exact (Kd.V_reads' HO_207003.out).2.1); rintro e w34 ⟨rfl, hb⟩; refine ⟨_, rfl, ?_⟩; have n0_ := Aside0.mk (Kd.V_below (by (with_reducible repeat (first | apply Kd.V_alloc | apply Kd.V_drewN | apply Kd.V_drew)); exact HO_32.out) hb); have n1_ := Aside0.mk (Kd.V_below (by (with_reducible repeat (first | apply Kd.V_alloc | apply Kd.V_drewN | apply Kd.V_drew)); exact HO_207001.out) hb); have n2_ := Aside0.mk (Kd.V_below (by (with_reducible repeat (first | apply Kd.V_alloc | apply Kd.V_drewN | apply Kd.V_drew)); exact HO_207002.out) hb); have n3_ := Aside0.mk (Kd.V_below (by (with_reducible repeat (first | apply Kd.V_alloc | apply Kd.V_drewN | apply Kd.V_drew)); exact HO_207003.out) hb); have n4_ := Aside0.mk (blk_below (g := gb206) (o := .cells #[.bool true, .slice Ao12 t208.length co12, .slice Ao13 t211.length co13, .slice Ao14 t214.length co14] 25 (0, 0)) (by (with_reducible repeat (first | refine blk_drewN ?_ _ | refine blk_drew ?_ | refine blk_alloc ?_ _)); exact BK206.out) hb); have n5_ := Aside0.mk (below_step (by repeat (first | (with_reducible first | exact HB.out | apply below_alloc | apply pw_below_drewN | apply below_drew1 | refine below_set ?_ GE206.out) | exact HB.out)) hb); clear HO_32; clear HO_207001; clear HO_207002; clear HO_207003; clear BK206; clear HB; have HO_32 := n0_; have HO_207001 := n1_; have HO_207002 := n2_; have HO_207003 := n3_; have BK206 := n4_; have HB := n5_; clear n0_ n1_ n2_ n3_ n4_ n5_; (try clear hb); (try clear hb2); (try clear hk); (try clear hi); have hcz35_0 : w34.cell? ⟨gb206, 0, none⟩ = some (.bool true) := (blk_cell BK206.out 0).trans rfl; have hcz35_1 : w34.cell? ⟨gb206, 1, none⟩ = some (.slice Ao12 t208.length co12) := (blk_cell BK206.out 1).trans rfl; have hcz35_2 : w34.cell? ⟨gb206, 2, none⟩ = some (.slice Ao13 t211.length co13) := (blk_cell BK206.out 2).trans rfl; have hcz35_3 : w34.cell? ⟨gb206, 3, none⟩ = some (.slice Ao14 t214.length co14) := (blk_cell BK206.out 3).trans rfl; have hfz35_0 := blk_frozen BK206.out 0; have hfz35_1 := blk_frozen BK206.out 1; have hfz35_2 := blk_frozen BK206.out 2; have hfz35_3 := blk_frozen BK206.out 3) | ((with_reducible refine gate_callee (f := 13) rfl ?_); refine goesL_ (some 66) rfl rfl Try.func13 (by kernel_rfl) rfl #[] rfl (by (try simp only [List.map_toArray, List.map_cons, List.map_nil]); first | done | rfl | (simp only [List.length_drop, List.length_take]; rfl)) ?_; (with_reducible refine (penelopelaw07_alive.calls k2  true _ A31.out).mono ?_); rintro e w36 ⟨rfl, hb⟩; refine ⟨_, rfl, ?_⟩; have n0_ := Aside0.mk (Kd.V_below (by (with_reducible repeat (first | apply Kd.V_alloc | apply Kd.V_drewN | apply Kd.V_drew)); exact HO_32.out) hb); have n1_ := Aside0.mk (Kd.V_below (by (with_reducible repeat (first | apply Kd.V_alloc | apply Kd.V_drewN | apply Kd.V_drew)); exact HO_207001.out) hb); have n2_ := Aside0.mk (Kd.V_below (by (with_reducible repeat (first | apply Kd.V_alloc | apply Kd.V_drewN | apply Kd.V_drew)); exact HO_207002.out) hb); have n3_ := Aside0.mk (Kd.V_below (by (with_reducible repeat (first | apply Kd.V_alloc | apply Kd.V_drewN | apply Kd.V_drew)); exact HO_207003.out) hb); have n4_ := Aside0.mk (blk_below (g := gb206) (o := .cells #[.bool true, .slice Ao12 t208.length co12, .slice Ao13 t211.length co13, .slice Ao14 t214.length co14] 25 (0, 0)) (by (with_reducible repeat (first | refine blk_drewN ?_ _ | refine blk_drew ?_ | refine blk_alloc ?_ _)); exact BK206.out) hb); have n5_ := Aside0.mk (below_step (by repeat (first | (with_reducible first | exact HB.out | apply below_alloc | apply pw_below_drewN | apply below_drew1 | refine below_set ?_ GE206.out) | exact HB.out)) hb); clear HO_32; clear HO_207001; clear HO_207002; clear HO_207003; clear BK206; clear HB; have HO_32 := n0_; have HO_207001 := n1_; have HO_207002 := n2_; have HO_207003 := n3_; have BK206 := n4_; have HB := n5_; clear n0_ n1_ n2_ n3_ n4_ n5_; (try clear hb); (try clear hb2); (try clear hk); (try clear hi)))
                    go_ret
                    exact ⟨by first | rfl | (simp [errW_none, errW_some] <;> rfl) | (simp [*, errW_none, errW_some] <;> rfl), by repeat (first | (with_reducible first | exact HB.out | apply below_alloc | apply pw_below_drewN | apply below_drew1 | refine below_set ?_ GE206.out) | exact HB.out)⟩
                  · replace c32 := Bool.eq_false_iff.mpr c32
                    subst c32
                    have H1 : (none) = some r := by rw [if_neg (show ¬ (false = true) by decide)] at H; exact H
                    clear H
                    have H := H1
                    clear H1
                    exact absurd H (by simp)
                · replace c30 := Bool.eq_false_iff.mpr c30
                  subst c30
                  have H1 : (if t220 = true then ((penelopelaw07_alive.f k2).bind fun t224 => (if t224 = true then (if t222 = (wrap64 (t219 + 1)) then (some (decide (t222 < (t214.length : Int)))) else (none)) else (none))) else ((penelopelaw07_alive.f k2).bind fun t225 => (if t225 = true then (if t222 = t219 then (some (decide (t222 < (t214.length : Int)))) else (none)) else (none)))) = some r := by rw [if_neg (show ¬ (false = true) by decide)] at H; exact H
                  clear H
                  have H := H1
                  clear H1
                  by_cases c37 : t220 = true
                  · subst c37
                    have H1 : ((penelopelaw07_alive.f k2).bind fun t224 => (if t224 = true then (if t222 = (wrap64 (t219 + 1)) then (some (decide (t222 < (t214.length : Int)))) else (none)) else (none))) = some r := by rw [if_pos rfl] at H; exact H
                    clear H
                    have H := H1
                    clear H1
                    replace H := Option.bind_eq_some_iff.mp H
                    obtain ⟨t224, A380, H⟩ := H
                    replace H : (if t224 = true then (if t222 = (wrap64 (t219 + 1)) then (some (decide (t222 < (t214.length : Int)))) else (none)) else (none)) = some r := H
                    have A38 := Aside0.mk A380
                    clear A380
                    by_cases c39 : t224 = true
                    · subst c39
                      have H1 : (if t222 = (wrap64 (t219 + 1)) then (some (decide (t222 < (t214.length : Int)))) else (none)) = some r := by rw [if_pos rfl] at H; exact H
                      clear H
                      have H := H1
                      clear H1
                      by_cases c40 : t222 = (wrap64 (t219 + 1))
                      · rw [if_pos c40] at H
                        have c40b0 : (t222 == (wrap64 (t219 + 1))) = true := beq_iff_eq.mpr c40
                        have c40b1 : (t222 != (wrap64 (t219 + 1))) = false := bne_eq_false_iff_eq.mpr c40
                        clear c40
                        obtain rfl := Option.some.inj H
                        have hcz41_0 : wr.cell? ⟨gb206, 0, none⟩ = some (.bool false) := (blk_cell BK206.out 0).trans rfl
                        have hcz41_1 : wr.cell? ⟨gb206, 1, none⟩ = some (.slice Ao12 t208.length co12) := (blk_cell BK206.out 1).trans rfl
                        have hcz41_2 : wr.cell? ⟨gb206, 2, none⟩ = some (.slice Ao13 t211.length co13) := (blk_cell BK206.out 2).trans rfl
                        have hcz41_3 : wr.cell? ⟨gb206, 3, none⟩ = some (.slice Ao14 t214.length co14) := (blk_cell BK206.out 3).trans rfl
                        have hfz41_0 := blk_frozen BK206.out 0
                        have hfz41_1 := blk_frozen BK206.out 1
                        have hfz41_2 := blk_frozen BK206.out 2
                        have hfz41_3 := blk_frozen BK206.out 3
                        go_wp2_with (first | ((with_reducible refine gate_callee (f := 18) rfl ?_); refine goesL_ (some 63) rfl rfl Try.func18 (by kernel_rfl) rfl #[.agg #[.bool false, .slice Ao12 t208.length co12, .slice Ao13 t211.length co13, .slice Ao14 t214.length co14], .string a1] rfl (by (try simp only [List.map_toArray, List.map_cons, List.map_nil]); first | done | rfl | (simp only [List.length_drop, List.length_take]; rfl)) ?_; (with_reducible refine (node_Kid.calls k2 false _ _ t208 _ _ t211 _ _ t214 a1 t222 _ ?side1 ?side2 ?side3 ?side4 ?side5 ?side6 A29.out).mono ?_); (case side1 => repeat (first | exact (Kd.V_reads' HO_207001.out).2.2 | (with_reducible refine Kd.C_alloc ?_ _) | (with_reducible refine Kd.C_drewN ?_ _) | (with_reducible refine Kd.C_drew ?_))); (case side2 => exact (Kd.V_reads' HO_207001.out).2.1); (case side3 => repeat (first | exact (Kd.V_reads' HO_207002.out).2.2 | (with_reducible refine Kd.C_alloc ?_ _) | (with_reducible refine Kd.C_drewN ?_ _) | (with_reducible refine Kd.C_drew ?_))); (case side4 => exact (Kd.V_reads' HO_207002.out).2.1); (case side5 => repeat (first | exact (Kd.V_reads' HO_207003.out).2.2 | (with_reducible refine Kd.C_alloc ?_ _) | (with_reducible refine Kd.C_drewN ?_ _) | (with_reducible refine Kd.C_drew ?_))); (case side6 => exact (Kd.V_reads' HO_207003.out).2.1); rintro e w42 ⟨rfl, hb⟩; refine ⟨_, rfl, ?_⟩; have n0_ := Aside0.mk (Kd.V_below (by (with_reducible repeat (first | apply Kd.V_alloc | apply Kd.V_drewN | apply Kd.V_drew)); exact HO_32.out) hb); have n1_ := Aside0.mk (Kd.V_below (by (with_reducible repeat (first | apply Kd.V_alloc | apply Kd.V_drewN | apply Kd.V_drew)); exact HO_207001.out) hb); have n2_ := Aside0.mk (Kd.V_below (by (with_reducible repeat (first | apply Kd.V_alloc | apply Kd.V_drewN | apply Kd.V_drew)); exact HO_207002.out) hb); have n3_ := Aside0.mk (Kd.V_below (by (with_reducible repeat (first | apply Kd.V_alloc | apply Kd.V_drewN | apply Kd.V_drew)); exact HO_207003.out) hb); have n4_ := Aside0.mk (blk_below (g := gb206) (o := .cells #[.bool false, .slice Ao12 t208.length co12, .slice Ao13 t211.length co13, .slice Ao14 t214.length co14] 25 (0, 0)) (by (with_reducible repeat (first | refine blk_drewN ?_ _ | refine blk_drew ?_ | refine blk_alloc ?_ _)); exact BK206.out) hb); have n5_ := Aside0.mk (below_step (by repeat (first | (with_reducible first | exact HB.out | apply below_alloc | apply pw_below_drewN | apply below_drew1 | refine below_set ?_ GE206.out) | exact HB.out)) hb); clear HO_32; clear HO_207001; clear HO_207002; clear HO_207003; clear BK206; clear HB; have HO_32 := n0_; have HO_207001 := n1_; have HO_207002 := n2_; have HO_207003 := n3_; have BK206 := n4_; have HB := n5_; clear n0_ n1_ n2_ n3_ n4_ n5_; (try clear hb); (try clear hb2); (try clear hk); (try clear hi); have hcz43_0 : w42.cell? ⟨gb206, 0, none⟩ = some (.bool false) := (blk_cell BK206.out 0).trans rfl; have hcz43_1 : w42.cell? ⟨gb206, 1, none⟩ = some (.slice Ao12 t208.length co12) := (blk_cell BK206.out 1).trans rfl; have hcz43_2 : w42.cell? ⟨gb206, 2, none⟩ = some (.slice Ao13 t211.length co13) := (blk_cell BK206.out 2).trans rfl; have hcz43_3 : w42.cell? ⟨gb206, 3, none⟩ = some (.slice Ao14 t214.length co14) := (blk_cell BK206.out 3).trans rfl; have hfz43_0 := blk_frozen BK206.out 0; have hfz43_1 := blk_frozen BK206.out 1; have hfz43_2 := blk_frozen BK206.out 2; have hfz43_3 := blk_frozen BK206.out 3) | ((with_reducible refine gate_callee (f := 13) rfl ?_); refine goesL_ (some 74) rfl rfl Try.func13 (by kernel_rfl) rfl #[] rfl (by (try simp only [List.map_toArray, List.map_cons, List.map_nil]); first | done | rfl | (simp only [List.length_drop, List.length_take]; rfl)) ?_; (with_reducible refine (penelopelaw07_alive.calls k2  true _ A38.out).mono ?_); rintro e w44 ⟨rfl, hb⟩; refine ⟨_, rfl, ?_⟩; have n0_ := Aside0.mk (Kd.V_below (by (with_reducible repeat (first | apply Kd.V_alloc | apply Kd.V_drewN | apply Kd.V_drew)); exact HO_32.out) hb); have n1_ := Aside0.mk (Kd.V_below (by (with_reducible repeat (first | apply Kd.V_alloc | apply Kd.V_drewN | apply Kd.V_drew)); exact HO_207001.out) hb); have n2_ := Aside0.mk (Kd.V_below (by (with_reducible repeat (first | apply Kd.V_alloc | apply Kd.V_drewN | apply Kd.V_drew)); exact HO_207002.out) hb); have n3_ := Aside0.mk (Kd.V_below (by (with_reducible repeat (first | apply Kd.V_alloc | apply Kd.V_drewN | apply Kd.V_drew)); exact HO_207003.out) hb); have n4_ := Aside0.mk (blk_below (g := gb206) (o := .cells #[.bool false, .slice Ao12 t208.length co12, .slice Ao13 t211.length co13, .slice Ao14 t214.length co14] 25 (0, 0)) (by (with_reducible repeat (first | refine blk_drewN ?_ _ | refine blk_drew ?_ | refine blk_alloc ?_ _)); exact BK206.out) hb); have n5_ := Aside0.mk (below_step (by repeat (first | (with_reducible first | exact HB.out | apply below_alloc | apply pw_below_drewN | apply below_drew1 | refine below_set ?_ GE206.out) | exact HB.out)) hb); clear HO_32; clear HO_207001; clear HO_207002; clear HO_207003; clear BK206; clear HB; have HO_32 := n0_; have HO_207001 := n1_; have HO_207002 := n2_; have HO_207003 := n3_; have BK206 := n4_; have HB := n5_; clear n0_ n1_ n2_ n3_ n4_ n5_; (try clear hb); (try clear hb2); (try clear hk); (try clear hi); have hcz45_0 : w44.cell? ⟨gb206, 0, none⟩ = some (.bool false) := (blk_cell BK206.out 0).trans rfl; have hcz45_1 : w44.cell? ⟨gb206, 1, none⟩ = some (.slice Ao12 t208.length co12) := (blk_cell BK206.out 1).trans rfl; have hcz45_2 : w44.cell? ⟨gb206, 2, none⟩ = some (.slice Ao13 t211.length co13) := (blk_cell BK206.out 2).trans rfl; have hcz45_3 : w44.cell? ⟨gb206, 3, none⟩ = some (.slice Ao14 t214.length co14) := (blk_cell BK206.out 3).trans rfl; have hfz45_0 := blk_frozen BK206.out 0; have hfz45_1 := blk_frozen BK206.out 1; have hfz45_2 := blk_frozen BK206.out 2; have hfz45_3 := blk_frozen BK206.out 3))
                        go_ret
                        exact ⟨by first | rfl | (simp [errW_none, errW_some] <;> rfl) | (simp [*, errW_none, errW_some] <;> rfl), by repeat (first | (with_reducible first | exact HB.out | apply below_alloc | apply pw_below_drewN | apply below_drew1 | refine below_set ?_ GE206.out) | exact HB.out)⟩
                      · rw [if_neg c40] at H
                        exact absurd H (by simp)
                    · replace c39 := Bool.eq_false_iff.mpr c39
                      subst c39
                      have H1 : (none) = some r := by rw [if_neg (show ¬ (false = true) by decide)] at H; exact H
                      clear H
                      have H := H1
                      clear H1
                      exact absurd H (by simp)
                  · replace c37 := Bool.eq_false_iff.mpr c37
                    subst c37
                    have H1 : ((penelopelaw07_alive.f k2).bind fun t225 => (if t225 = true then (if t222 = t219 then (some (decide (t222 < (t214.length : Int)))) else (none)) else (none))) = some r := by rw [if_neg (show ¬ (false = true) by decide)] at H; exact H
                    clear H
                    have H := H1
                    clear H1
                    replace H := Option.bind_eq_some_iff.mp H
                    obtain ⟨t225, A460, H⟩ := H
                    replace H : (if t225 = true then (if t222 = t219 then (some (decide (t222 < (t214.length : Int)))) else (none)) else (none)) = some r := H
                    have A46 := Aside0.mk A460
                    clear A460
                    by_cases c47 : t225 = true
                    · subst c47
                      have H1 : (if t222 = t219 then (some (decide (t222 < (t214.length : Int)))) else (none)) = some r := by rw [if_pos rfl] at H; exact H
                      clear H
                      have H := H1
                      clear H1
                      by_cases c48 : t222 = t219
                      · rw [if_pos c48] at H
                        have c48b0 : (t222 == t219) = true := beq_iff_eq.mpr c48
                        have c48b1 : (t222 != t219) = false := bne_eq_false_iff_eq.mpr c48
                        clear c48
                        obtain rfl := Option.some.inj H
                        have hcz49_0 : wr.cell? ⟨gb206, 0, none⟩ = some (.bool false) := (blk_cell BK206.out 0).trans rfl
                        have hcz49_1 : wr.cell? ⟨gb206, 1, none⟩ = some (.slice Ao12 t208.length co12) := (blk_cell BK206.out 1).trans rfl
                        have hcz49_2 : wr.cell? ⟨gb206, 2, none⟩ = some (.slice Ao13 t211.length co13) := (blk_cell BK206.out 2).trans rfl
                        have hcz49_3 : wr.cell? ⟨gb206, 3, none⟩ = some (.slice Ao14 t214.length co14) := (blk_cell BK206.out 3).trans rfl
                        have hfz49_0 := blk_frozen BK206.out 0
                        have hfz49_1 := blk_frozen BK206.out 1
                        have hfz49_2 := blk_frozen BK206.out 2
                        have hfz49_3 := blk_frozen BK206.out 3
                        go_wp2_with (first | ((with_reducible refine gate_callee (f := 18) rfl ?_); refine goesL_ (some 63) rfl rfl Try.func18 (by kernel_rfl) rfl #[.agg #[.bool false, .slice Ao12 t208.length co12, .slice Ao13 t211.length co13, .slice Ao14 t214.length co14], .string a1] rfl (by (try simp only [List.map_toArray, List.map_cons, List.map_nil]); first | done | rfl | (simp only [List.length_drop, List.length_take]; rfl)) ?_; (with_reducible refine (node_Kid.calls k2 false _ _ t208 _ _ t211 _ _ t214 a1 t222 _ ?side1 ?side2 ?side3 ?side4 ?side5 ?side6 A29.out).mono ?_); (case side1 => repeat (first | exact (Kd.V_reads' HO_207001.out).2.2 | (with_reducible refine Kd.C_alloc ?_ _) | (with_reducible refine Kd.C_drewN ?_ _) | (with_reducible refine Kd.C_drew ?_))); (case side2 => exact (Kd.V_reads' HO_207001.out).2.1); (case side3 => repeat (first | exact (Kd.V_reads' HO_207002.out).2.2 | (with_reducible refine Kd.C_alloc ?_ _) | (with_reducible refine Kd.C_drewN ?_ _) | (with_reducible refine Kd.C_drew ?_))); (case side4 => exact (Kd.V_reads' HO_207002.out).2.1); (case side5 => repeat (first | exact (Kd.V_reads' HO_207003.out).2.2 | (with_reducible refine Kd.C_alloc ?_ _) | (with_reducible refine Kd.C_drewN ?_ _) | (with_reducible refine Kd.C_drew ?_))); (case side6 => exact (Kd.V_reads' HO_207003.out).2.1); rintro e w50 ⟨rfl, hb⟩; refine ⟨_, rfl, ?_⟩; have n0_ := Aside0.mk (Kd.V_below (by (with_reducible repeat (first | apply Kd.V_alloc | apply Kd.V_drewN | apply Kd.V_drew)); exact HO_32.out) hb); have n1_ := Aside0.mk (Kd.V_below (by (with_reducible repeat (first | apply Kd.V_alloc | apply Kd.V_drewN | apply Kd.V_drew)); exact HO_207001.out) hb); have n2_ := Aside0.mk (Kd.V_below (by (with_reducible repeat (first | apply Kd.V_alloc | apply Kd.V_drewN | apply Kd.V_drew)); exact HO_207002.out) hb); have n3_ := Aside0.mk (Kd.V_below (by (with_reducible repeat (first | apply Kd.V_alloc | apply Kd.V_drewN | apply Kd.V_drew)); exact HO_207003.out) hb); have n4_ := Aside0.mk (blk_below (g := gb206) (o := .cells #[.bool false, .slice Ao12 t208.length co12, .slice Ao13 t211.length co13, .slice Ao14 t214.length co14] 25 (0, 0)) (by (with_reducible repeat (first | refine blk_drewN ?_ _ | refine blk_drew ?_ | refine blk_alloc ?_ _)); exact BK206.out) hb); have n5_ := Aside0.mk (below_step (by repeat (first | (with_reducible first | exact HB.out | apply below_alloc | apply pw_below_drewN | apply below_drew1 | refine below_set ?_ GE206.out) | exact HB.out)) hb); clear HO_32; clear HO_207001; clear HO_207002; clear HO_207003; clear BK206; clear HB; have HO_32 := n0_; have HO_207001 := n1_; have HO_207002 := n2_; have HO_207003 := n3_; have BK206 := n4_; have HB := n5_; clear n0_ n1_ n2_ n3_ n4_ n5_; (try clear hb); (try clear hb2); (try clear hk); (try clear hi); have hcz51_0 : w50.cell? ⟨gb206, 0, none⟩ = some (.bool false) := (blk_cell BK206.out 0).trans rfl; have hcz51_1 : w50.cell? ⟨gb206, 1, none⟩ = some (.slice Ao12 t208.length co12) := (blk_cell BK206.out 1).trans rfl; have hcz51_2 : w50.cell? ⟨gb206, 2, none⟩ = some (.slice Ao13 t211.length co13) := (blk_cell BK206.out 2).trans rfl; have hcz51_3 : w50.cell? ⟨gb206, 3, none⟩ = some (.slice Ao14 t214.length co14) := (blk_cell BK206.out 3).trans rfl; have hfz51_0 := blk_frozen BK206.out 0; have hfz51_1 := blk_frozen BK206.out 1; have hfz51_2 := blk_frozen BK206.out 2; have hfz51_3 := blk_frozen BK206.out 3) | ((with_reducible refine gate_callee (f := 13) rfl ?_); refine goesL_ (some 74) rfl rfl Try.func13 (by kernel_rfl) rfl #[] rfl (by (try simp only [List.map_toArray, List.map_cons, List.map_nil]); first | done | rfl | (simp only [List.length_drop, List.length_take]; rfl)) ?_; (with_reducible refine (penelopelaw07_alive.calls k2  true _ A46.out).mono ?_); rintro e w52 ⟨rfl, hb⟩; refine ⟨_, rfl, ?_⟩; have n0_ := Aside0.mk (Kd.V_below (by (with_reducible repeat (first | apply Kd.V_alloc | apply Kd.V_drewN | apply Kd.V_drew)); exact HO_32.out) hb); have n1_ := Aside0.mk (Kd.V_below (by (with_reducible repeat (first | apply Kd.V_alloc | apply Kd.V_drewN | apply Kd.V_drew)); exact HO_207001.out) hb); have n2_ := Aside0.mk (Kd.V_below (by (with_reducible repeat (first | apply Kd.V_alloc | apply Kd.V_drewN | apply Kd.V_drew)); exact HO_207002.out) hb); have n3_ := Aside0.mk (Kd.V_below (by (with_reducible repeat (first | apply Kd.V_alloc | apply Kd.V_drewN | apply Kd.V_drew)); exact HO_207003.out) hb); have n4_ := Aside0.mk (blk_below (g := gb206) (o := .cells #[.bool false, .slice Ao12 t208.length co12, .slice Ao13 t211.length co13, .slice Ao14 t214.length co14] 25 (0, 0)) (by (with_reducible repeat (first | refine blk_drewN ?_ _ | refine blk_drew ?_ | refine blk_alloc ?_ _)); exact BK206.out) hb); have n5_ := Aside0.mk (below_step (by repeat (first | (with_reducible first | exact HB.out | apply below_alloc | apply pw_below_drewN | apply below_drew1 | refine below_set ?_ GE206.out) | exact HB.out)) hb); clear HO_32; clear HO_207001; clear HO_207002; clear HO_207003; clear BK206; clear HB; have HO_32 := n0_; have HO_207001 := n1_; have HO_207002 := n2_; have HO_207003 := n3_; have BK206 := n4_; have HB := n5_; clear n0_ n1_ n2_ n3_ n4_ n5_; (try clear hb); (try clear hb2); (try clear hk); (try clear hi); have hcz53_0 : w52.cell? ⟨gb206, 0, none⟩ = some (.bool false) := (blk_cell BK206.out 0).trans rfl; have hcz53_1 : w52.cell? ⟨gb206, 1, none⟩ = some (.slice Ao12 t208.length co12) := (blk_cell BK206.out 1).trans rfl; have hcz53_2 : w52.cell? ⟨gb206, 2, none⟩ = some (.slice Ao13 t211.length co13) := (blk_cell BK206.out 2).trans rfl; have hcz53_3 : w52.cell? ⟨gb206, 3, none⟩ = some (.slice Ao14 t214.length co14) := (blk_cell BK206.out 3).trans rfl; have hfz53_0 := blk_frozen BK206.out 0; have hfz53_1 := blk_frozen BK206.out 1; have hfz53_2 := blk_frozen BK206.out 2; have hfz53_3 := blk_frozen BK206.out 3))
                        go_ret
                        exact ⟨by first | rfl | (simp [errW_none, errW_some] <;> rfl) | (simp [*, errW_none, errW_some] <;> rfl), by repeat (first | (with_reducible first | exact HB.out | apply below_alloc | apply pw_below_drewN | apply below_drew1 | refine below_set ?_ GE206.out) | exact HB.out)⟩
                      · rw [if_neg c48] at H
                        exact absurd H (by simp)
                    · replace c47 := Bool.eq_false_iff.mpr c47
                      subst c47
                      have H1 : (none) = some r := by rw [if_neg (show ¬ (false = true) by decide)] at H; exact H
                      clear H
                      have H := H1
                      clear H1
                      exact absurd H (by simp)
  · replace c5 := Bool.eq_false_iff.mpr c5
    subst c5
    have H1 : ((penelopelaw07_alive.f k).bind fun t218 => (some t218)) = some r := by rw [if_neg (show ¬ (false = true) by decide)] at H; exact H
    clear H
    have H := H1
    clear H1
    replace H := Option.bind_eq_some_iff.mp H
    obtain ⟨t218, A540, H⟩ := H
    replace H : (some t218) = some r := H
    have A54 := Aside0.mk A540
    clear A540
    obtain rfl := Option.some.inj H
    go_enter Try.func5, Try.ntmps5
    go_wp2_with (first | ((with_reducible refine gate_dst (N := 2) rfl ?_); (try (refine gate_guard (by rfl) ?_; dsimp only)); refine box_event ?hg (N := 2) ?hd (cs := #[.bool a0_0, .slice A0_1 l0_1.length c0_1, .slice A0_2 l0_2.length c0_2, .slice A0_3 l0_3.length c0_3]) (t := 25) ?hr ?_; (case hd => rfl); (case hg => rfl); (case hr => first | (go_simp; done) | (go_simp; rfl)); intro gb206 hg w55 hbox hb; have n0_ := Aside0.mk (below_step (by repeat (first | (with_reducible first | exact HB.out | apply below_alloc | apply pw_below_drewN | apply below_drew1) | exact HB.out)) hb); have n1_ := Aside0.mk (hbox); have n2_ := Aside0.mk ((by rw [hg]; exact (below_size (by repeat (first | (with_reducible first | exact HB.out | apply below_alloc | apply pw_below_drewN | apply below_drew1) | exact HB.out))) : w.heap.size ≤ gb206)); have n3_ := Aside0.mk ((by rw [hg]; exact (below_size (by repeat (first | (with_reducible first | exact HB.out | apply below_alloc | apply pw_below_drewN | apply below_drew1) | exact HB.out))) : w.heap.size ≤ gb206)); clear HB; have HB := n0_; have BK206 := n1_; have GW206 := n2_; have GE206 := n3_; clear n0_ n1_ n2_ n3_; clear hb hbox hg; have hcz56_0 : w55.cell? ⟨gb206, 0, none⟩ = some (.bool a0_0) := (blk_cell BK206.out 0).trans rfl; have hcz56_1 : w55.cell? ⟨gb206, 1, none⟩ = some (.slice A0_1 l0_1.length c0_1) := (blk_cell BK206.out 1).trans rfl; have hcz56_2 : w55.cell? ⟨gb206, 2, none⟩ = some (.slice A0_2 l0_2.length c0_2) := (blk_cell BK206.out 2).trans rfl; have hcz56_3 : w55.cell? ⟨gb206, 3, none⟩ = some (.slice A0_3 l0_3.length c0_3) := (blk_cell BK206.out 3).trans rfl; have hfz56_0 := blk_frozen BK206.out 0; have hfz56_1 := blk_frozen BK206.out 1; have hfz56_2 := blk_frozen BK206.out 2; have hfz56_3 := blk_frozen BK206.out 3) | ((with_reducible refine gate_callee (f := 10) rfl ?_); refine goesL_ (some 11) rfl rfl Try.func10 (by kernel_rfl) rfl #[.agg #[.bool a0_0, .slice A0_1 l0_1.length c0_1, .slice A0_2 l0_2.length c0_2, .slice A0_3 l0_3.length c0_3]] rfl (by (try simp only [List.map_toArray, List.map_cons, List.map_nil]); first | done | rfl | (simp only [List.length_drop, List.length_take]; rfl)) ?_; (with_reducible refine (penelopelaw07_few.calls a0_0 (fun k_ => k_ < w.heap.size) _ _ l0_1 (fun k_ => k_ < w.heap.size) _ _ l0_2 (fun k_ => k_ < w.heap.size) _ _ l0_3 t207 t208 t211 t214 _ ?side1 ?side2 ?side3 A3.out).mono ?_); (case side1 => exact Kd.V_mk HC0_1.out (Kd.F_below (Kd.C_F Kd.heap_string HR0_1.out) (by repeat (first | (with_reducible first | exact HB.out | apply below_alloc | apply pw_below_drewN | apply below_drew1 | refine below_set ?_ GE206.out) | exact HB.out)))); (case side2 => exact Kd.V_mk HC0_2.out (Kd.F_below (Kd.C_F Kd.heap_string HR0_2.out) (by repeat (first | (with_reducible first | exact HB.out | apply below_alloc | apply pw_below_drewN | apply below_drew1 | refine below_set ?_ GE206.out) | exact HB.out)))); (case side3 => exact Kd.V_mk HC0_3.out (Kd.F_below (Kd.C_F (Kd.heap_int .i64) HR0_3.out) (by repeat (first | (with_reducible first | exact HB.out | apply below_alloc | apply pw_below_drewN | apply below_drew1 | refine below_set ?_ GE206.out) | exact HB.out)))); rintro e w57 ⟨v209, v212, v215, rfl, ho0, ho1, ho2, hb⟩; refine ⟨_, rfl, ?_⟩; have n0_ := Aside0.mk (Kd.V_lower (Kd.V_mono (ok' := fun k_ => k_ ≠ gb206) ho0 (fun k_ hk_ => Or.elim hk_ (fun hs_ => Or.elim hs_ (fun hs_ => fun e_ => Nat.not_le.2 hs_ (by rw [e_]; exact GW206.out)) (fun hs_ => Or.elim hs_ (fun hs_ => fun e_ => Nat.not_le.2 hs_ (by rw [e_]; exact GW206.out)) (fun hs_ => fun e_ => Nat.not_le.2 hs_ (by rw [e_]; exact GW206.out)))) (fun hn_ => (Kd.freshB (g := gb206) (o := .cells #[.bool a0_0, .slice A0_1 l0_1.length c0_1, .slice A0_2 l0_2.length c0_2, .slice A0_3 l0_3.length c0_3] 25 (0, 0)) (by (with_reducible repeat (first | refine blk_drewN ?_ _ | refine blk_drew ?_ | refine blk_alloc ?_ _)); exact BK206.out) k_ hn_)))) (below_size (by repeat (first | (with_reducible first | exact HB.out | apply below_alloc | apply pw_below_drewN | apply below_drew1 | refine below_set ?_ GE206.out) | exact HB.out)))); have n1_ := Aside0.mk (Kd.V_lower (Kd.V_mono (ok' := fun k_ => k_ ≠ gb206) ho1 (fun k_ hk_ => Or.elim hk_ (fun hs_ => Or.elim hs_ (fun hs_ => fun e_ => Nat.not_le.2 hs_ (by rw [e_]; exact GW206.out)) (fun hs_ => Or.elim hs_ (fun hs_ => fun e_ => Nat.not_le.2 hs_ (by rw [e_]; exact GW206.out)) (fun hs_ => fun e_ => Nat.not_le.2 hs_ (by rw [e_]; exact GW206.out)))) (fun hn_ => (Kd.freshB (g := gb206) (o := .cells #[.bool a0_0, .slice A0_1 l0_1.length c0_1, .slice A0_2 l0_2.length c0_2, .slice A0_3 l0_3.length c0_3] 25 (0, 0)) (by (with_reducible repeat (first | refine blk_drewN ?_ _ | refine blk_drew ?_ | refine blk_alloc ?_ _)); exact BK206.out) k_ hn_)))) (below_size (by repeat (first | (with_reducible first | exact HB.out | apply below_alloc | apply pw_below_drewN | apply below_drew1 | refine below_set ?_ GE206.out) | exact HB.out)))); have n2_ := Aside0.mk (Kd.V_lower (Kd.V_mono (ok' := fun k_ => k_ ≠ gb206) ho2 (fun k_ hk_ => Or.elim hk_ (fun hs_ => Or.elim hs_ (fun hs_ => fun e_ => Nat.not_le.2 hs_ (by rw [e_]; exact GW206.out)) (fun hs_ => Or.elim hs_ (fun hs_ => fun e_ => Nat.not_le.2 hs_ (by rw [e_]; exact GW206.out)) (fun hs_ => fun e_ => Nat.not_le.2 hs_ (by rw [e_]; exact GW206.out)))) (fun hn_ => (Kd.freshB (g := gb206) (o := .cells #[.bool a0_0, .slice A0_1 l0_1.length c0_1, .slice A0_2 l0_2.length c0_2, .slice A0_3 l0_3.length c0_3] 25 (0, 0)) (by (with_reducible repeat (first | refine blk_drewN ?_ _ | refine blk_drew ?_ | refine blk_alloc ?_ _)); exact BK206.out) k_ hn_)))) (below_size (by repeat (first | (with_reducible first | exact HB.out | apply below_alloc | apply pw_below_drewN | apply below_drew1 | refine below_set ?_ GE206.out) | exact HB.out)))); have n3_ := Aside0.mk (blk_below (g := gb206) (o := .cells #[.bool a0_0, .slice A0_1 l0_1.length c0_1, .slice A0_2 l0_2.length c0_2, .slice A0_3 l0_3.length c0_3] 25 (0, 0)) (by (with_reducible repeat (first | refine blk_drewN ?_ _ | refine blk_drew ?_ | refine blk_alloc ?_ _)); exact BK206.out) hb); have n4_ := Aside0.mk (below_step (by repeat (first | (with_reducible first | exact HB.out | apply below_alloc | apply pw_below_drewN | apply below_drew1 | refine below_set ?_ GE206.out) | exact HB.out)) hb); clear BK206; clear HB; have HO210 := n0_; have HO213 := n1_; have HO216 := n2_; have BK206 := n3_; have HB := n4_; clear n0_ n1_ n2_ n3_ n4_; (try clear hb); (try clear hb2); (try clear hk); (try clear hi); (try clear ho0); (try clear ho1); (try clear ho2); have hcz58_0 : w57.cell? ⟨gb206, 0, none⟩ = some (.bool a0_0) := (blk_cell BK206.out 0).trans rfl; have hcz58_1 : w57.cell? ⟨gb206, 1, none⟩ = some (.slice A0_1 l0_1.length c0_1) := (blk_cell BK206.out 1).trans rfl; have hcz58_2 : w57.cell? ⟨gb206, 2, none⟩ = some (.slice A0_2 l0_2.length c0_2) := (blk_cell BK206.out 2).trans rfl; have hcz58_3 : w57.cell? ⟨gb206, 3, none⟩ = some (.slice A0_3 l0_3.length c0_3) := (blk_cell BK206.out 3).trans rfl; have hfz58_0 := blk_frozen BK206.out 0; have hfz58_1 := blk_frozen BK206.out 1; have hfz58_2 := blk_frozen BK206.out 2; have hfz58_3 := blk_frozen BK206.out 3; obtain ⟨Ao59, co59, eo59⟩ := Kd.V_slice HO210.out; subst eo59; obtain ⟨Ao60, co60, eo60⟩ := Kd.V_slice HO213.out; subst eo60; obtain ⟨Ao61, co61, eo61⟩ := Kd.V_slice HO216.out; subst eo61) | ((with_reducible refine gate_callee (f := 20) rfl ?_); refine goesL_ (some 13) rfl rfl Try.func20 (by kernel_rfl) rfl #[.agg #[.bool t207, .slice Ao59 t208.length co59, .slice Ao60 t211.length co60, .slice Ao61 t214.length co61]] rfl (by (try simp only [List.map_toArray, List.map_cons, List.map_nil]); first | done | rfl | (simp only [List.length_drop, List.length_take]; rfl)) ?_; (with_reducible refine (peneloperef07_Stands.calls k t207 _ _ t208 _ _ t211 _ _ t214 false _ ?side1 ?side2 ?side3 ?side4 ?side5 ?side6 A4.out).mono ?_); (case side1 => refine (Kd.V_reads' (e := 9) (base := w.heap.size) (ok := fun k_ => k_ ≠ gb206) (n := t208.length) (c := co59) ?_).2.2; exact (by (with_reducible repeat (first | apply Kd.V_alloc | apply Kd.V_drewN | apply Kd.V_drew)); exact (Kd.V_mono (Kd.V_far (p := ⟨gb206, 3, none⟩) (Kd.V_far (p := ⟨gb206, 2, none⟩) (Kd.V_far (p := ⟨gb206, 1, none⟩) (Kd.V_far (p := ⟨gb206, 0, none⟩) (Kd.V_mono HO210.out (fun k_ hk => (⟨hk, hk⟩ : _ ∧ k_ ≠ gb206))) (fun _ hk => hk.2) (.bool t207)) (fun _ hk => hk.2) (.slice Ao59 t208.length co59)) (fun _ hk => hk.2) (.slice Ao60 t211.length co60)) (fun _ hk => hk.2) (.slice Ao61 t214.length co61)) (fun _ h_ => h_.1)))); (case side2 => exact (Kd.V_reads' HO210.out).2.1); (case side3 => refine (Kd.V_reads' (e := 9) (base := w.heap.size) (ok := fun k_ => k_ ≠ gb206) (n := t211.length) (c := co60) ?_).2.2; exact (by (with_reducible repeat (first | apply Kd.V_alloc | apply Kd.V_drewN | apply Kd.V_drew)); exact (Kd.V_mono (Kd.V_far (p := ⟨gb206, 3, none⟩) (Kd.V_far (p := ⟨gb206, 2, none⟩) (Kd.V_far (p := ⟨gb206, 1, none⟩) (Kd.V_far (p := ⟨gb206, 0, none⟩) (Kd.V_mono HO213.out (fun k_ hk => (⟨hk, hk⟩ : _ ∧ k_ ≠ gb206))) (fun _ hk => hk.2) (.bool t207)) (fun _ hk => hk.2) (.slice Ao59 t208.length co59)) (fun _ hk => hk.2) (.slice Ao60 t211.length co60)) (fun _ hk => hk.2) (.slice Ao61 t214.length co61)) (fun _ h_ => h_.1)))); (case side4 => exact (Kd.V_reads' HO213.out).2.1); (case side5 => refine (Kd.V_reads' (e := 3) (base := w.heap.size) (ok := fun k_ => k_ ≠ gb206) (n := t214.length) (c := co61) ?_).2.2; exact (by (with_reducible repeat (first | apply Kd.V_alloc | apply Kd.V_drewN | apply Kd.V_drew)); exact (Kd.V_mono (Kd.V_far (p := ⟨gb206, 3, none⟩) (Kd.V_far (p := ⟨gb206, 2, none⟩) (Kd.V_far (p := ⟨gb206, 1, none⟩) (Kd.V_far (p := ⟨gb206, 0, none⟩) (Kd.V_mono HO216.out (fun k_ hk => (⟨hk, hk⟩ : _ ∧ k_ ≠ gb206))) (fun _ hk => hk.2) (.bool t207)) (fun _ hk => hk.2) (.slice Ao59 t208.length co59)) (fun _ hk => hk.2) (.slice Ao60 t211.length co60)) (fun _ hk => hk.2) (.slice Ao61 t214.length co61)) (fun _ h_ => h_.1)))); (case side6 => exact (Kd.V_reads' HO216.out).2.1); rintro e w62 ⟨rfl, hb⟩; refine ⟨_, rfl, ?_⟩; have n0_ := Aside0.mk (Kd.V_below (by (with_reducible repeat (first | apply Kd.V_alloc | apply Kd.V_drewN | apply Kd.V_drew)); exact (Kd.V_mono (Kd.V_far (p := ⟨gb206, 3, none⟩) (Kd.V_far (p := ⟨gb206, 2, none⟩) (Kd.V_far (p := ⟨gb206, 1, none⟩) (Kd.V_far (p := ⟨gb206, 0, none⟩) (Kd.V_mono HO210.out (fun k_ hk => (⟨hk, hk⟩ : _ ∧ k_ ≠ gb206))) (fun _ hk => hk.2) (.bool t207)) (fun _ hk => hk.2) (.slice Ao59 t208.length co59)) (fun _ hk => hk.2) (.slice Ao60 t211.length co60)) (fun _ hk => hk.2) (.slice Ao61 t214.length co61)) (fun _ h_ => h_.1))) hb); have n1_ := Aside0.mk (Kd.V_below (by (with_reducible repeat (first | apply Kd.V_alloc | apply Kd.V_drewN | apply Kd.V_drew)); exact (Kd.V_mono (Kd.V_far (p := ⟨gb206, 3, none⟩) (Kd.V_far (p := ⟨gb206, 2, none⟩) (Kd.V_far (p := ⟨gb206, 1, none⟩) (Kd.V_far (p := ⟨gb206, 0, none⟩) (Kd.V_mono HO213.out (fun k_ hk => (⟨hk, hk⟩ : _ ∧ k_ ≠ gb206))) (fun _ hk => hk.2) (.bool t207)) (fun _ hk => hk.2) (.slice Ao59 t208.length co59)) (fun _ hk => hk.2) (.slice Ao60 t211.length co60)) (fun _ hk => hk.2) (.slice Ao61 t214.length co61)) (fun _ h_ => h_.1))) hb); have n2_ := Aside0.mk (Kd.V_below (by (with_reducible repeat (first | apply Kd.V_alloc | apply Kd.V_drewN | apply Kd.V_drew)); exact (Kd.V_mono (Kd.V_far (p := ⟨gb206, 3, none⟩) (Kd.V_far (p := ⟨gb206, 2, none⟩) (Kd.V_far (p := ⟨gb206, 1, none⟩) (Kd.V_far (p := ⟨gb206, 0, none⟩) (Kd.V_mono HO216.out (fun k_ hk => (⟨hk, hk⟩ : _ ∧ k_ ≠ gb206))) (fun _ hk => hk.2) (.bool t207)) (fun _ hk => hk.2) (.slice Ao59 t208.length co59)) (fun _ hk => hk.2) (.slice Ao60 t211.length co60)) (fun _ hk => hk.2) (.slice Ao61 t214.length co61)) (fun _ h_ => h_.1))) hb); have n3_ := Aside0.mk (blk_below (g := gb206) (o := .cells #[.bool t207, .slice Ao59 t208.length co59, .slice Ao60 t211.length co60, .slice Ao61 t214.length co61] 25 (0, 0)) (by (with_reducible repeat (first | refine blk_drewN ?_ _ | refine blk_drew ?_ | refine blk_alloc ?_ _)); refine blk_put (cs := #[.bool t207, .slice Ao59 t208.length co59, .slice Ao60 t211.length co60, .slice A0_3 l0_3.length c0_3]) ?_ 3 _ rfl; (with_reducible repeat (first | refine blk_drewN ?_ _ | refine blk_drew ?_ | refine blk_alloc ?_ _)); refine blk_put (cs := #[.bool t207, .slice Ao59 t208.length co59, .slice A0_2 l0_2.length c0_2, .slice A0_3 l0_3.length c0_3]) ?_ 2 _ rfl; (with_reducible repeat (first | refine blk_drewN ?_ _ | refine blk_drew ?_ | refine blk_alloc ?_ _)); refine blk_put (cs := #[.bool t207, .slice A0_1 l0_1.length c0_1, .slice A0_2 l0_2.length c0_2, .slice A0_3 l0_3.length c0_3]) ?_ 1 _ rfl; (with_reducible repeat (first | refine blk_drewN ?_ _ | refine blk_drew ?_ | refine blk_alloc ?_ _)); refine blk_put (cs := #[.bool a0_0, .slice A0_1 l0_1.length c0_1, .slice A0_2 l0_2.length c0_2, .slice A0_3 l0_3.length c0_3]) ?_ 0 _ rfl; (with_reducible repeat (first | refine blk_drewN ?_ _ | refine blk_drew ?_ | refine blk_alloc ?_ _)); exact BK206.out) hb); have n4_ := Aside0.mk (below_step (by repeat (first | (with_reducible first | exact HB.out | apply below_alloc | apply pw_below_drewN | apply below_drew1 | refine below_set ?_ GE206.out) | exact HB.out)) hb); clear HO210; clear HO213; clear HO216; clear BK206; clear HB; have HO210 := n0_; have HO213 := n1_; have HO216 := n2_; have BK206 := n3_; have HB := n4_; clear n0_ n1_ n2_ n3_ n4_; (try clear hb); (try clear hb2); (try clear hk); (try clear hi)) | ((with_reducible refine gate_callee (f := 13) rfl ?_); refine goesL_ (some 15) rfl rfl Try.func13 (by kernel_rfl) rfl #[] rfl (by (try simp only [List.map_toArray, List.map_cons, List.map_nil]); first | done | rfl | (simp only [List.length_drop, List.length_take]; rfl)) ?_; (with_reducible refine (penelopelaw07_alive.calls k  t218 _ A54.out).mono ?_); rintro e w63 ⟨rfl, hb⟩; refine ⟨_, rfl, ?_⟩; have n0_ := Aside0.mk (Kd.V_below (by (with_reducible repeat (first | apply Kd.V_alloc | apply Kd.V_drewN | apply Kd.V_drew)); exact HO210.out) hb); have n1_ := Aside0.mk (Kd.V_below (by (with_reducible repeat (first | apply Kd.V_alloc | apply Kd.V_drewN | apply Kd.V_drew)); exact HO213.out) hb); have n2_ := Aside0.mk (Kd.V_below (by (with_reducible repeat (first | apply Kd.V_alloc | apply Kd.V_drewN | apply Kd.V_drew)); exact HO216.out) hb); have n3_ := Aside0.mk (blk_below (g := gb206) (o := .cells #[.bool t207, .slice Ao59 t208.length co59, .slice Ao60 t211.length co60, .slice Ao61 t214.length co61] 25 (0, 0)) (by (with_reducible repeat (first | refine blk_drewN ?_ _ | refine blk_drew ?_ | refine blk_alloc ?_ _)); exact BK206.out) hb); have n4_ := Aside0.mk (below_step (by repeat (first | (with_reducible first | exact HB.out | apply below_alloc | apply pw_below_drewN | apply below_drew1 | refine below_set ?_ GE206.out) | exact HB.out)) hb); clear HO210; clear HO213; clear HO216; clear BK206; clear HB; have HO210 := n0_; have HO213 := n1_; have HO216 := n2_; have BK206 := n3_; have HB := n4_; clear n0_ n1_ n2_ n3_ n4_; (try clear hb); (try clear hb2); (try clear hk); (try clear hi)))
    go_ret
    exact ⟨by first | rfl | (simp [errW_none, errW_some] <;> rfl) | (simp [*, errW_none, errW_some] <;> rfl), by repeat (first | (with_reducible first | exact HB.out | apply below_alloc | apply pw_below_drewN | apply below_drew1 | refine below_set ?_ GE206.out) | exact HB.out)⟩

end Go.Proofs.Ytmnkabdaapiikaa.X
