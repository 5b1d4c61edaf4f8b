/- The tasks that can be done (dag.free): what the machine's call comes to, as a plain function. -/
import Derived.Test.YtbgmhcefjggpgaaXx0
import Derived.LoopTactic
import Derived.Outline
namespace Go.Proofs.Ytbgmhcefjggpgaa
open Go.RowKit Go.Proofs.YtbgmhcefjggpgaaW.PrintWords Go.Proofs.YtbgmhcefjggpgaaW.PrintLast Go.Proofs.YtbgmhcefjggpgaaW.PrintMore
open X (S39 k39 rd_T39 at_T39 z39)
set_option linter.unusedVariables false

def openF (D : List Bool) (x : Int) : Option Bool := if 0 ≤ x ∧ x < (D.length : Int) then some (!(rdOf false D x)) else none
def anyO (p : Int → Option Bool) : List Int → Option Bool
  | [] => some false
  | x :: xs => (p x).bind fun b => if b = true then some true else anyO p xs
def anyF (p : Int → Option Bool) (l : List Int) : Option Bool := if l.length ≤ 1000000 then anyO p l else none
set_option maxHeartbeats 1000000 in
theorem open_test (g : Nat) (A1 : Option Addr) (c1 : Nat) (D : List Bool) (x : Int) (b : Bool) (h : openF D x = some b) (w : World) (hr : Kd.C Kd.bool w A1 D.length D) (hg : w.heap[g]? = some (.cells #[.slice A1 D.length c1] 25 (0, 0))) :
    Calls Try.prog 41 #[.int .i64 x, .pointer (some ⟨g, 0, none⟩)] w fun e w' => e = .returned (.bool b) ∧ Below w.heap.size w w' := by
  unfold openF at h
  by_cases hx : 0 ≤ x ∧ x < (D.length : Int)
  case neg => rw [if_neg hx] at h; cases h
  rw [if_pos hx] at h
  obtain rfl := Option.some.inj h
  obtain ⟨ad, rfl, hc⟩ := Kd.at_bool hr x hx.1 hx.2
  have c3 : w.cell? ⟨g, 0, none⟩ = some (.slice (some ad) D.length c1) := (blk_cell hg 0).trans rfl
  obtain ⟨p1, p2⟩ := hx
  have HB := Aside0.mk (Below.refl w.heap.size w)
  clear h hg hr
  generalize rdOf false D x = y at hc ⊢
  generalize D.length = n at c3 p2
  go_enter Try.func41, Try.ntmps41
  go_wp2
  go_ret
  exact ⟨rfl, (by repeat (first | (with_reducible first | exact HB.out | apply below_alloc | apply pw_below_drewN | apply below_drew1) | exact HB.out))⟩
set_option maxHeartbeats 1000000 in
theorem has_idx (g : Nat) (p : Int → Option Bool) (A0 : Option Addr) (c0 : Nat) (l0 : List Int) (r : Bool) (w : World) (hr0 : Kd.C (Kd.int .i64) w A0 l0.length l0) (hl : l0.length ≤ 1000000) (h : anyO p l0 = some r)
    (KC : ∀ x b, p x = some b → ∀ W, Below w.heap.size w W → Calls Try.prog 41 #[.int .i64 x, .pointer (some ⟨g, 0, none⟩)] W fun e w' => e = .returned (.bool b) ∧ Below W.heap.size W w') :
    Calls Try.prog 48 #[.slice A0 l0.length c0, .func (.func 41) #[] #[.pointer (some ⟨g, 0, none⟩)]] w fun e w' => (∃ i : Int, e = .returned (.int .i64 i) ∧ decide (i ≥ 0) = r) ∧ Below w.heap.size w w' := by
  have HC := Aside0.mk KC
  have HR := Aside0.mk hr0
  have HL := Aside0.mk hl
  have HH := Aside0.mk h
  clear hl h KC
  obtain ⟨n, hn⟩ : ∃ n : Nat, l0.length = n := ⟨_, rfl⟩
  rw [hn] at hr0 HR HL ⊢
  have HN := Aside0.mk hn
  clear hn
  go_enter Try.func48, Try.ntmps48
  go_wp2
  go_loopw [8] (fun i wr => ∃ k : Nat, k ≤ n ∧ i = .int .i64 k ∧ Aside0 (anyO p (l0.drop k) = some r) ∧ Aside0 (Below w.heap.size w wr)) (fun i _ => n - (intOf i).toNat)
  case atStart => exact ⟨0, Nat.zero_le _, rfl, HH, ⟨Below.refl _ _⟩⟩
  case round =>
    clear hr0
    obtain ⟨k, hk, rfl, HA, HB⟩ := hrel
    by_cases hlt : k < n
    · have hn := HN.out
      have hbig := HL.out
      obtain ⟨ad, rfl, hcell⟩ := Kd.at_int (Kd.C_below HR.out HB.out) (k : Int) (by omega) (by omega)
      rw [Int.toNat_natCast] at hcell
      have ha := HA.out
      rw [List.drop_eq_getElem_cons (by omega), anyO] at ha
      have hx : rd l0 (k : Int) = l0[k]'(by omega) := by simp [rd, List.getD_eq_getElem?_getD, List.getElem?_eq_getElem (show k < l0.length by omega)]
      rw [hx] at hcell
      obtain ⟨b, hb, ha⟩ := Option.bind_eq_some_iff.1 ha
      generalize l0[k]'(by omega) = x at hcell hb
      have KP := Aside0.mk (HC.out x b hb)
      clear hb hx HA
      cases b
      · rw [if_neg (by simp)] at ha
        have HA := Aside0.mk ha
        clear ha
        go_wp2_with (go_at_call 41; refine (KP.out _ (by repeat (first | (with_reducible first | exact HB.out | apply below_alloc | apply pw_below_drewN | apply below_drew1) | exact HB.out))).mono ?_; rintro e w1 ⟨rfl, hb⟩; have HB1 := Aside0.mk (below_step (by repeat (first | (with_reducible first | exact HB.out | apply below_alloc | apply pw_below_drewN | apply below_drew1) | exact HB.out)) hb); clear hb)
        go_roundw
        case rel => exact ⟨k + 1, by omega, by go_num, HA, HB1⟩
        case measure => simp [intOf]; omega
      · rw [if_pos rfl] at ha
        obtain rfl := Option.some.inj ha
        clear ha
        go_wp2_with (go_at_call 41; refine (KP.out _ (by repeat (first | (with_reducible first | exact HB.out | apply below_alloc | apply pw_below_drewN | apply below_drew1) | exact HB.out))).mono ?_; rintro e w1 ⟨rfl, hb⟩; have HB1 := Aside0.mk (below_step (by repeat (first | (with_reducible first | exact HB.out | apply below_alloc | apply pw_below_drewN | apply below_drew1) | exact HB.out)) hb); clear hb)
        go_ret
        exact ⟨⟨_, rfl, by simp⟩, HB1.out⟩
    · obtain rfl : k = n := by omega
      have ha := HA.out
      rw [List.drop_eq_nil_of_le (by rw [HN.out]; omega), anyO] at ha
      obtain rfl := Option.some.inj ha
      clear ha HA
      go_wp2
      go_ret
      exact ⟨⟨_, rfl, by simp⟩, HB.out⟩
theorem has_calls (g : Nat) (p : Int → Option Bool) (A0 : Option Addr) (c0 : Nat) (l0 : List Int) (r : Bool) (w : World) (hr0 : Kd.C (Kd.int .i64) w A0 l0.length l0) (h : anyF p l0 = some r)
    (KC : ∀ x b, p x = some b → ∀ W, Below w.heap.size w W → Calls Try.prog 41 #[.int .i64 x, .pointer (some ⟨g, 0, none⟩)] W fun e w' => e = .returned (.bool b) ∧ Below W.heap.size W w') :
    Calls Try.prog 42 #[.slice A0 l0.length c0, .func (.func 41) #[] #[.pointer (some ⟨g, 0, none⟩)]] w fun e w' => e = .returned (.bool r) ∧ Below w.heap.size w w' := by
  unfold anyF at h
  by_cases hl : l0.length ≤ 1000000
  case neg => rw [if_neg hl] at h; cases h
  rw [if_pos hl] at h
  have K := Aside0.mk (has_idx g p A0 c0 l0 r w hr0 hl h KC)
  clear h hr0 KC
  go_enter Try.func42, Try.ntmps42
  go_wp2_with (go_at_call 48; refine K.out.mono ?_; rintro e w1 ⟨⟨i, rfl, hi⟩, hb⟩; have HI := Aside0.mk hi; have HB1 := Aside0.mk hb; clear hb hi)
  go_ret
  exact ⟨by rw [← HI.out]; rfl, HB1.out⟩
def freeL (D : List Bool) : List S39 → Nat → Option (List Int)
  | [], _ => some []
  | t :: ts, i => (openF D (i : Int)).bind fun o => if o = true then (anyF (openF D) t.f0).bind fun b => if b = true then freeL D ts (i + 1) else (freeL D ts (i + 1)).map fun r => (i : Int) :: r else freeL D ts (i + 1)
def dag_free.f (k : Nat) (l0 : List S39) (l1 : List Bool) : Option (List Int) := if l0.length ≤ 1000000 then freeL l1 l0 0 else none
theorem dag_free.mono : ∀ l0 l1 k, LeO (dag_free.f k l0 l1) (dag_free.f (k + 1) l0 l1) := fun _ _ _ => LeO.refl _
theorem inf3 : (Try.prog.info? 3).map (fun i => (i.zero, i.size, i.bytes)) = some (some (.int .i64 0), 1, 8) := by kernel_rfl
set_option maxHeartbeats 4000000 in
set_option maxRecDepth 100000 in
theorem dag_free.calls (k : Nat) (A0 : Option Addr) (c0 : Nat) (l0 : List S39) (A1 : Option Addr) (c1 : Nat) (D : List Bool) (r : List Int) (w : World) (hr0 : Kd.C k39 w A0 l0.length l0) (hc0 : l0.length ≤ c0) (hr1 : Kd.C Kd.bool w A1 D.length D) (hc1 : D.length ≤ c1) (h : dag_free.f k l0 D = some r) :
    Calls Try.prog 25 #[.slice A0 l0.length c0, .slice A1 D.length c1] w fun e w' => ∃ v0_ : Value, e = .returned (v0_) ∧ Kd.R (Kd.int .i64) 3 w' w.heap.size (fun _ => True) v0_ r ∧ Below w.heap.size w w' := by
  have hu39 := Try.underlying39
  unfold dag_free.f at h
  by_cases hl : l0.length ≤ 1000000
  case neg => rw [if_neg hl] at h; cases h
  rw [if_pos hl] at h
  have HH := Aside0.mk h
  have HR0 := Aside0.mk hr0
  have HR1 := Aside0.mk hr1
  have HL := Aside0.mk hl
  have HB := Aside0.mk (Below.refl w.heap.size w)
  clear h hr0 hr1 hl hc0 hc1
  go_enter Try.func25, Try.ntmps25
  go_wp2_with ((with_reducible refine gate_dst (N := 3) rfl ?_); refine box_event ?hg (N := 3) ?hd (cs := #[.slice A1 D.length c1]) (t := 25) ?hr ?_; (case hd => rfl); (case hg => rfl); (case hr => first | (go_simp; done) | (go_simp; rfl)); intro g3 hg w1 hbox hb; have G3 := Aside0.mk (show w.heap.size ≤ g3 by rw [hg]; exact below_size (by repeat (first | (with_reducible first | exact HB.out | apply below_alloc | apply pw_below_drewN | apply below_drew1) | exact HB.out))); have NB := Aside0.mk (below_step (by repeat (first | (with_reducible first | exact HB.out | apply below_alloc | apply pw_below_drewN | apply below_drew1) | exact HB.out)) hb); clear HB; have HB := NB; have B3 := Aside0.mk hbox; clear NB hb hbox hg)
  go_loopw [6, 12] (fun v6 v12 wr => ∃ (q : Nat) (out r1 : List Int) (u : Value), u = v6 ∧ v12 = .int .i64 q ∧ Aside0 (q ≤ l0.length ∧ out.length ≤ q) ∧ Aside0 (freeL D (l0.drop q) q = some r1) ∧ Aside0 (out ++ r1 = r) ∧ Aside0 (Kd.R (Kd.int .i64) 3 wr w.heap.size (fun _ => True) u out) ∧ Aside0 (wr.heap[g3]? = some (.cells #[.slice A1 D.length c1] 25 (0, 0))) ∧ Aside0 (Below w.heap.size w wr)) (fun _ i _ => l0.length - (intOf i).toNat)
  case atStart => exact ⟨0, [], r, .slice none 0 0, rfl, rfl, ⟨by simp⟩, HH, ⟨rfl⟩, ⟨Kd.R_nil _ _ _ _ _⟩, B3, HB⟩
  case round =>
    clear HH HB B3
    obtain ⟨q, out, r1, u, rfl, rfl, LQ, HS, HE, HO, B3, HB⟩ := hrel
    by_cases hlt : q < l0.length
    · have hs := HS.out
      rw [List.drop_eq_getElem_cons hlt, freeL] at hs
      obtain ⟨ad, A8, c8, rfl, tx0, tx1, tx2, tx3, hl8, hr8⟩ := at_T39 (Kd.C_below HR0.out HB.out) (q : Int) (by omega) (by omega)
      have et : rd_T39 l0 (q : Int) = l0[q] := by simp [rd_T39, List.getD_eq_getElem?_getD, List.getElem?_eq_getElem hlt]
      rw [et] at tx0 tx1 tx2 tx3 hl8 hr8
      have HR8a := Aside0.mk hr8
      have WR := Aside0.mk HB.out
      have HR8 : Aside0 (Kd.C (Kd.int .i64) w A8 l0[q].f0.length l0[q].f0) := by
        obtain ⟨ad', A8', c8', e', ux0, _, _, _, _, hr'⟩ := at_T39 HR0.out (q : Int) (by omega) (by omega)
        rw [et] at ux0 hr'
        cases e'
        have e0 := (HB.out.cell (World.block_lt_of_cell? w _ ux0)).trans ux0
        rw [tx0] at e0
        injection e0 with e0
        injection e0 with e1 e2 e3
        subst e1
        exact ⟨hr'⟩
      have LM : Aside0 (out.length ≤ 1000000) := ⟨by have := LQ.out; have := HL.out; omega⟩
      have EW : wrap64 ((q : Int) + 1) = ((q + 1 : Nat) : Int) := by have := HL.out; unfold wrap64; omega
      clear hr8 hl8 HR8a WR et
      generalize l0[q] = t at *
      rw [Int.toNat_natCast] at tx0 tx1 tx2 tx3
      obtain ⟨o, ho, hs⟩ := Option.bind_eq_some_iff.1 hs
      have TO := Aside0.mk ho
      clear ho HS
      go_upto_region 6 with ((with_reducible refine gate_dst (N := 8) rfl ?_); refine box_event ?hg (N := 8) ?hd (cs := #[.slice none 0 0, .int .i64 0, .int .i64 0, .int .i64 0]) (t := 39) ?hr ?_; (case hd => rfl); (case hg => rfl); (case hr => first | (go_simp; done) | (go_simp; rfl)); intro g8 hg w2 hbox hb; have G8 := Aside0.mk (show w.heap.size ≤ g8 by rw [hg]; exact below_size (by repeat (first | (with_reducible first | exact HB.out | apply below_alloc | apply pw_below_drewN | apply below_drew1) | exact HB.out))); have X3 := Aside0.mk (blk_below (o := .cells #[.slice A1 D.length c1] 25 (0, 0)) (by (with_reducible repeat (first | refine blk_drewN ?_ _ | refine blk_drew ?_ | refine blk_alloc ?_ _)); exact B3.out) hb); have N38 := Aside0.mk (show g3 ≠ g8 by rw [hg]; exact Nat.ne_of_lt (blk_lt (o := .cells #[.slice A1 D.length c1] 25 (0, 0)) (by (with_reducible repeat (first | refine blk_drewN ?_ _ | refine blk_drew ?_ | refine blk_alloc ?_ _)); exact B3.out))); have XO := Aside0.mk (Kd.R_below (by (with_reducible repeat (first | apply Kd.R_alloc | apply Kd.R_drewN | apply Kd.R_drew)); exact HO.out) hb); have NB := Aside0.mk (below_step (by repeat (first | (with_reducible first | exact HB.out | apply below_alloc | apply pw_below_drewN | apply below_drew1) | exact HB.out)) hb); clear HB B3 HO; have HB := NB; have B3 := X3; have HO := XO; have B8 := Aside0.mk hbox; clear NB X3 XO hb hbox hg; have c80 : w2.cell? ⟨g8, 0, none⟩ = some (.slice none 0 0) := (blk_cell B8.out 0).trans rfl; have c81 : w2.cell? ⟨g8, 1, none⟩ = some (.int .i64 0) := (blk_cell B8.out 1).trans rfl; have c82 : w2.cell? ⟨g8, 2, none⟩ = some (.int .i64 0) := (blk_cell B8.out 2).trans rfl; have c83 : w2.cell? ⟨g8, 3, none⟩ = some (.int .i64 0) := (blk_cell B8.out 3).trans rfl; have f80 := blk_frozen B8.out 0; have f81 := blk_frozen B8.out 1; have f82 := blk_frozen B8.out 2; have f83 := blk_frozen B8.out 3)
      have X8 := Aside0.mk (show ((((w2.setCell ⟨g8, 0, none⟩ (.slice A8 t.f0.length c8)).setCell ⟨g8, 1, none⟩ (.int .i64 t.f1)).setCell ⟨g8, 2, none⟩ (.int .i64 t.f2)).setCell ⟨g8, 3, none⟩ (.int .i64 t.f3)).heap[g8]? = some (.cells #[.slice A8 t.f0.length c8, .int .i64 t.f1, .int .i64 t.f2, .int .i64 t.f3] 39 (0, 0)) from blk_put (cs := #[.slice A8 t.f0.length c8, .int .i64 t.f1, .int .i64 t.f2, .int .i64 0]) (blk_put (cs := #[.slice A8 t.f0.length c8, .int .i64 t.f1, .int .i64 0, .int .i64 0]) (blk_put (cs := #[.slice A8 t.f0.length c8, .int .i64 0, .int .i64 0, .int .i64 0]) (blk_put (cs := #[.slice none 0 0, .int .i64 0, .int .i64 0, .int .i64 0]) B8.out 0 _ rfl) 1 _ rfl) 2 _ rfl) 3 _ rfl)
      have X3 := Aside0.mk (show ((((w2.setCell ⟨g8, 0, none⟩ (.slice A8 t.f0.length c8)).setCell ⟨g8, 1, none⟩ (.int .i64 t.f1)).setCell ⟨g8, 2, none⟩ (.int .i64 t.f2)).setCell ⟨g8, 3, none⟩ (.int .i64 t.f3)).heap[g3]? = some (.cells #[.slice A1 D.length c1] 25 (0, 0)) from blk_far (blk_far (blk_far (blk_far B3.out N38.out _) N38.out _) N38.out _) N38.out _)
      have XB := Aside0.mk (show Below w.heap.size w ((((w2.setCell ⟨g8, 0, none⟩ (.slice A8 t.f0.length c8)).setCell ⟨g8, 1, none⟩ (.int .i64 t.f1)).setCell ⟨g8, 2, none⟩ (.int .i64 t.f2)).setCell ⟨g8, 3, none⟩ (.int .i64 t.f3)) from below_set (below_set (below_set (below_set HB.out G8.out) G8.out) G8.out) G8.out)
      have XO := Aside0.mk (show Kd.R (Kd.int .i64) 3 ((((w2.setCell ⟨g8, 0, none⟩ (.slice A8 t.f0.length c8)).setCell ⟨g8, 1, none⟩ (.int .i64 t.f1)).setCell ⟨g8, 2, none⟩ (.int .i64 t.f2)).setCell ⟨g8, 3, none⟩ (.int .i64 t.f3)) w.heap.size (fun _ => True) u out from Kd.R_mono (Kd.R_keep (Kd.R_types HO.out B8.out (by decide)) (KeepBut.set_ (KeepBut.set_ (KeepBut.set_ (KeepBut.set_ (KeepBut.refl _ _ _) 0 _) 1 _) 2 _) 3 _) (fun _ h => h.2)) (fun _ h => h.1))
      clear HB B3 B8 HO c80 c81 c82 c83 f80 f81 f82 f83 tx0 tx1 tx2 tx3
      have HB := XB
      have B3 := X3
      have B8 := X8
      have HO := XO
      clear XB X3 X8 XO
      generalize (((w2.setCell ⟨g8, 0, none⟩ (.slice A8 t.f0.length c8)).setCell ⟨g8, 1, none⟩ (.int .i64 t.f1)).setCell ⟨g8, 2, none⟩ (.int .i64 t.f2)).setCell ⟨g8, 3, none⟩ (.int .i64 t.f3) = w3 at *
      have d8 : w3.cell? ⟨g8, 0, none⟩ = some (.slice A8 t.f0.length c8) := (blk_cell B8.out 0).trans rfl
      cases o
      · rw [if_neg (by simp)] at hs
        have HS := Aside0.mk hs
        clear hs
        go_wp2_with (go_at_call 41; refine (open_test g3 A1 c1 D (q : Int) _ TO.out _ (by repeat (first | exact (Kd.C_below HR1.out HB.out) | (with_reducible refine Kd.C_alloc ?_ _) | (with_reducible refine Kd.C_drewN ?_ _) | (with_reducible refine Kd.C_drew ?_))) (by (with_reducible repeat (first | refine blk_drewN ?_ _ | refine blk_drew ?_ | refine blk_alloc ?_ _)); exact B3.out)).mono ?_; rintro e w4 ⟨rfl, hb⟩; have X3 := Aside0.mk (blk_below (o := .cells #[.slice A1 D.length c1] 25 (0, 0)) (by (with_reducible repeat (first | refine blk_drewN ?_ _ | refine blk_drew ?_ | refine blk_alloc ?_ _)); exact B3.out) hb); have X8 := Aside0.mk (blk_below (o := .cells #[.slice A8 t.f0.length c8, .int .i64 t.f1, .int .i64 t.f2, .int .i64 t.f3] 39 (0, 0)) (by (with_reducible repeat (first | refine blk_drewN ?_ _ | refine blk_drew ?_ | refine blk_alloc ?_ _)); exact B8.out) hb); have XO := Aside0.mk (Kd.R_below (by (with_reducible repeat (first | apply Kd.R_alloc | apply Kd.R_drewN | apply Kd.R_drew)); exact HO.out) hb); have XB := Aside0.mk (below_step (by repeat (first | (with_reducible first | exact HB.out | apply below_alloc | apply pw_below_drewN | apply below_drew1) | exact HB.out)) hb); clear hb B3 B8 HO HB; have B3 := X3; have B8 := X8; have HO := XO; have HB := XB; clear X3 X8 XO XB; have d8 : w4.cell? ⟨g8, 0, none⟩ = some (.slice A8 t.f0.length c8) := (blk_cell B8.out 0).trans rfl)
        go_roundw
        case rel => exact ⟨q + 1, out, r1, u, rfl, by rw [EW], ⟨by have := LQ.out; omega⟩, HS, HE, HO, B3, HB⟩
        case measure => rw [EW]; simp only [intOf]; omega
      · rw [if_pos rfl] at hs
        obtain ⟨b, hb0, hs⟩ := Option.bind_eq_some_iff.1 hs
        have TA := Aside0.mk hb0
        clear hb0
        cases b
        · rw [if_neg (by simp)] at hs
          obtain ⟨r2, h2, he⟩ := Option.map_eq_some_iff.1 hs
          subst he
          have HS := Aside0.mk h2
          have HE2 := Aside0.mk (show (out ++ [(q : Int)]) ++ r2 = r by rw [← HE.out]; simp)
          clear hs h2
          go_wp2_with (first | (go_at_call 41; refine (open_test g3 A1 c1 D (q : Int) _ TO.out _ (by repeat (first | exact (Kd.C_below HR1.out HB.out) | (with_reducible refine Kd.C_alloc ?_ _) | (with_reducible refine Kd.C_drewN ?_ _) | (with_reducible refine Kd.C_drew ?_))) (by (with_reducible repeat (first | refine blk_drewN ?_ _ | refine blk_drew ?_ | refine blk_alloc ?_ _)); exact B3.out)).mono ?_; rintro e w4 ⟨rfl, hb⟩; have X3 := Aside0.mk (blk_below (o := .cells #[.slice A1 D.length c1] 25 (0, 0)) (by (with_reducible repeat (first | refine blk_drewN ?_ _ | refine blk_drew ?_ | refine blk_alloc ?_ _)); exact B3.out) hb); have X8 := Aside0.mk (blk_below (o := .cells #[.slice A8 t.f0.length c8, .int .i64 t.f1, .int .i64 t.f2, .int .i64 t.f3] 39 (0, 0)) (by (with_reducible repeat (first | refine blk_drewN ?_ _ | refine blk_drew ?_ | refine blk_alloc ?_ _)); exact B8.out) hb); have XO := Aside0.mk (Kd.R_below (by (with_reducible repeat (first | apply Kd.R_alloc | apply Kd.R_drewN | apply Kd.R_drew)); exact HO.out) hb); have XB := Aside0.mk (below_step (by repeat (first | (with_reducible first | exact HB.out | apply below_alloc | apply pw_below_drewN | apply below_drew1) | exact HB.out)) hb); clear hb B3 B8 HO HB; have B3 := X3; have B8 := X8; have HO := XO; have HB := XB; clear X3 X8 XO XB; have d8 : w4.cell? ⟨g8, 0, none⟩ = some (.slice A8 t.f0.length c8) := (blk_cell B8.out 0).trans rfl) | (go_at_call 42; refine (has_calls g3 (openF D) A8 c8 t.f0 _ _ (by repeat (first | exact (Kd.C_below HR8.out HB.out) | (with_reducible refine Kd.C_alloc ?_ _) | (with_reducible refine Kd.C_drewN ?_ _) | (with_reducible refine Kd.C_drew ?_))) TA.out (fun x b hx W hW => open_test g3 A1 c1 D x b hx W (Kd.C_below (by repeat (first | exact (Kd.C_below HR1.out HB.out) | (with_reducible refine Kd.C_alloc ?_ _) | (with_reducible refine Kd.C_drewN ?_ _) | (with_reducible refine Kd.C_drew ?_))) hW) (blk_below (o := .cells #[.slice A1 D.length c1] 25 (0, 0)) (by (with_reducible repeat (first | refine blk_drewN ?_ _ | refine blk_drew ?_ | refine blk_alloc ?_ _)); exact B3.out) hW))).mono ?_; rintro e w5 ⟨rfl, hb⟩; have X3 := Aside0.mk (blk_below (o := .cells #[.slice A1 D.length c1] 25 (0, 0)) (by (with_reducible repeat (first | refine blk_drewN ?_ _ | refine blk_drew ?_ | refine blk_alloc ?_ _)); exact B3.out) hb); have X8 := Aside0.mk (blk_below (o := .cells #[.slice A8 t.f0.length c8, .int .i64 t.f1, .int .i64 t.f2, .int .i64 t.f3] 39 (0, 0)) (by (with_reducible repeat (first | refine blk_drewN ?_ _ | refine blk_drew ?_ | refine blk_alloc ?_ _)); exact B8.out) hb); have XO := Aside0.mk (Kd.R_below (by (with_reducible repeat (first | apply Kd.R_alloc | apply Kd.R_drewN | apply Kd.R_drew)); exact HO.out) hb); have XB := Aside0.mk (below_step (by repeat (first | (with_reducible first | exact HB.out | apply below_alloc | apply pw_below_drewN | apply below_drew1) | exact HB.out)) hb); clear hb B3 B8 HO HB; have B3 := X3; have B8 := X8; have HO := XO; have HB := XB; clear X3 X8 XO XB; have d8 : w5.cell? ⟨g8, 0, none⟩ = some (.slice A8 t.f0.length c8) := (blk_cell B8.out 0).trans rfl) | ((with_reducible refine gate_builtin (b := .append) (xs := #[.tmp 27, .tmp 29]) rfl ?_); at_builtin; refine Kd.R_append (Kd.int .i64) (w0 := w) w.heap.size rfl (.tmp 27) (.tmp 29) 29 3 (.int .i64 0) 8 rfl Try.underlying29 inf3 rfl (by decide) (by omega) u out (q : Int) [.int .i64 (q : Int)] (fun _ => True) (fun _ => False) rfl rfl ?aP (fun _ hk => hk.elim) ?aF ?aO ?aB ?aS ?aL ?_; (case aP => exact rfl); (case aB => exact (by repeat (first | (with_reducible first | exact HB.out | apply below_alloc | apply pw_below_drewN | apply below_drew1) | exact HB.out))); (case aF => exact (fun _ _ => trivial)); (case aO => exact (by (with_reducible repeat (first | apply Kd.R_alloc | apply Kd.R_drewN | apply Kd.R_drew)); exact HO.out)); (case aS => exact (below_size (by repeat (first | (with_reducible first | exact HB.out | apply below_alloc | apply pw_below_drewN | apply below_drew1) | exact HB.out)))); (case aL => have := LM.out; omega); intro v6 w6 ho hb hg hat; have X3 := Aside0.mk (blk_grown (g := g3) (o := .cells #[.slice A1 D.length c1] 25 (0, 0)) (by (with_reducible repeat (first | refine blk_drewN ?_ _ | refine blk_drew ?_ | refine blk_alloc ?_ _)); exact B3.out) hg (Kd.R_ne HO.out B3.out (by decide))); have XO := Aside0.mk ho; have XB := Aside0.mk hb; clear ho hb hg hat B3 HO HB B8; have B3 := X3; have HO := XO; have HB := XB; clear X3 XO XB))
          go_roundw
          case rel => exact ⟨q + 1, out ++ [(q : Int)], r2, _, rfl, by rw [EW], ⟨by have := LQ.out; simp; omega⟩, HS, HE2, HO, B3, HB⟩
          case measure => rw [EW]; simp only [intOf]; omega
        · rw [if_pos rfl] at hs
          have HS := Aside0.mk hs
          clear hs
          go_wp2_with (first | (go_at_call 41; refine (open_test g3 A1 c1 D (q : Int) _ TO.out _ (by repeat (first | exact (Kd.C_below HR1.out HB.out) | (with_reducible refine Kd.C_alloc ?_ _) | (with_reducible refine Kd.C_drewN ?_ _) | (with_reducible refine Kd.C_drew ?_))) (by (with_reducible repeat (first | refine blk_drewN ?_ _ | refine blk_drew ?_ | refine blk_alloc ?_ _)); exact B3.out)).mono ?_; rintro e w4 ⟨rfl, hb⟩; have X3 := Aside0.mk (blk_below (o := .cells #[.slice A1 D.length c1] 25 (0, 0)) (by (with_reducible repeat (first | refine blk_drewN ?_ _ | refine blk_drew ?_ | refine blk_alloc ?_ _)); exact B3.out) hb); have X8 := Aside0.mk (blk_below (o := .cells #[.slice A8 t.f0.length c8, .int .i64 t.f1, .int .i64 t.f2, .int .i64 t.f3] 39 (0, 0)) (by (with_reducible repeat (first | refine blk_drewN ?_ _ | refine blk_drew ?_ | refine blk_alloc ?_ _)); exact B8.out) hb); have XO := Aside0.mk (Kd.R_below (by (with_reducible repeat (first | apply Kd.R_alloc | apply Kd.R_drewN | apply Kd.R_drew)); exact HO.out) hb); have XB := Aside0.mk (below_step (by repeat (first | (with_reducible first | exact HB.out | apply below_alloc | apply pw_below_drewN | apply below_drew1) | exact HB.out)) hb); clear hb B3 B8 HO HB; have B3 := X3; have B8 := X8; have HO := XO; have HB := XB; clear X3 X8 XO XB; have d8 : w4.cell? ⟨g8, 0, none⟩ = some (.slice A8 t.f0.length c8) := (blk_cell B8.out 0).trans rfl) | (go_at_call 42; refine (has_calls g3 (openF D) A8 c8 t.f0 _ _ (by repeat (first | exact (Kd.C_below HR8.out HB.out) | (with_reducible refine Kd.C_alloc ?_ _) | (with_reducible refine Kd.C_drewN ?_ _) | (with_reducible refine Kd.C_drew ?_))) TA.out (fun x b hx W hW => open_test g3 A1 c1 D x b hx W (Kd.C_below (by repeat (first | exact (Kd.C_below HR1.out HB.out) | (with_reducible refine Kd.C_alloc ?_ _) | (with_reducible refine Kd.C_drewN ?_ _) | (with_reducible refine Kd.C_drew ?_))) hW) (blk_below (o := .cells #[.slice A1 D.length c1] 25 (0, 0)) (by (with_reducible repeat (first | refine blk_drewN ?_ _ | refine blk_drew ?_ | refine blk_alloc ?_ _)); exact B3.out) hW))).mono ?_; rintro e w5 ⟨rfl, hb⟩; have X3 := Aside0.mk (blk_below (o := .cells #[.slice A1 D.length c1] 25 (0, 0)) (by (with_reducible repeat (first | refine blk_drewN ?_ _ | refine blk_drew ?_ | refine blk_alloc ?_ _)); exact B3.out) hb); have X8 := Aside0.mk (blk_below (o := .cells #[.slice A8 t.f0.length c8, .int .i64 t.f1, .int .i64 t.f2, .int .i64 t.f3] 39 (0, 0)) (by (with_reducible repeat (first | refine blk_drewN ?_ _ | refine blk_drew ?_ | refine blk_alloc ?_ _)); exact B8.out) hb); have XO := Aside0.mk (Kd.R_below (by (with_reducible repeat (first | apply Kd.R_alloc | apply Kd.R_drewN | apply Kd.R_drew)); exact HO.out) hb); have XB := Aside0.mk (below_step (by repeat (first | (with_reducible first | exact HB.out | apply below_alloc | apply pw_below_drewN | apply below_drew1) | exact HB.out)) hb); clear hb B3 B8 HO HB; have B3 := X3; have B8 := X8; have HO := XO; have HB := XB; clear X3 X8 XO XB; have d8 : w5.cell? ⟨g8, 0, none⟩ = some (.slice A8 t.f0.length c8) := (blk_cell B8.out 0).trans rfl))
          go_roundw
          case rel => exact ⟨q + 1, out, r1, u, rfl, by rw [EW], ⟨by have := LQ.out; omega⟩, HS, HE, HO, B3, HB⟩
          case measure => rw [EW]; simp only [intOf]; omega
    · obtain rfl : q = l0.length := by have := LQ.out; omega
      have hs := HS.out
      rw [List.drop_eq_nil_of_le (Nat.le_refl _), freeL] at hs
      obtain rfl := Option.some.inj hs
      have he := HE.out
      rw [List.append_nil] at he
      subst he
      clear hs HS HE
      go_wp2
      go_ret
      exact ⟨_, rfl, HO.out, HB.out⟩
end Go.Proofs.Ytbgmhcefjggpgaa
