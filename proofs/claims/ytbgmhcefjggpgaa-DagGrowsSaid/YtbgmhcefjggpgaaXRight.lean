/- Why a graph may not be (dag.Right): what the machine's call comes to, as a plain function. -/
import Derived.Test.YtbgmhcefjggpgaaXx14
import Derived.Test.YtbgmhcefjggpgaaXx4
import Derived.LoopTactic
import Derived.Deep.RegionWith
namespace Go.Proofs.Ytbgmhcefjggpgaa
open Go.RowKit Go.Proofs.YtbgmhcefjggpgaaW.PrintWords Go.Proofs.YtbgmhcefjggpgaaW.PrintLast Go.Proofs.YtbgmhcefjggpgaaW.PrintMore
open X (S39 k39 rd_T39 at_T39 z39)
set_option linter.unusedVariables false

set_option maxHeartbeats 1000000 in
theorem task_test (k g : Nat) (n : Int) (A : Option Addr) (c : Nat) (t : S39) (b : Bool) (h : X.dag_task.f k t.f0 t.f1 t.f2 t.f3 n = some b) (w : World) (hr : Kd.C (Kd.int .i64) w A t.f0.length t.f0) (hc : t.f0.length ≤ c) (hg : w.heap[g]? = some (.cells #[.int .i64 n] 3 (0, 0))) :
    Calls Try.prog 27 #[.agg #[.slice A t.f0.length c, .int .i64 t.f1, .int .i64 t.f2, .int .i64 t.f3], .pointer (some ⟨g, 0, none⟩)] w fun e w' => e = .returned (.bool (!b)) ∧ Below w.heap.size w w' := by
  have hu39 := Try.underlying39
  have HB := Aside0.mk (Below.refl w.heap.size w)
  have HR := Aside0.mk hr
  have HC := Aside0.mk hc
  have TH := Aside0.mk h
  have BG := Aside0.mk hg
  clear hr hc h hg
  obtain ⟨l, l1, l2, l3⟩ := t
  simp only at HR HC TH ⊢
  go_enter Try.func27, Try.ntmps27
  go_wp2_with (first | ((with_reducible refine gate_dst (N := 2) rfl ?_); refine box_event ?hg (N := 2) ?hd (cs := #[.slice A l.length c, .int .i64 l1, .int .i64 l2, .int .i64 l3]) (t := 39) ?hr ?_; (case hd => rfl); (case hg => rfl); (case hr => first | (go_simp; done) | (go_simp; rfl)); intro g2 hg w1 hbox hb; have NB := Aside0.mk (below_step (by repeat (first | (with_reducible first | exact HB.out | apply below_alloc | apply pw_below_drewN | apply below_drew1) | exact HB.out)) hb); have X1 := Aside0.mk (blk_below (o := .cells #[.int .i64 n] 3 (0, 0)) (by (with_reducible repeat (first | refine blk_drewN ?_ _ | refine blk_drew ?_ | refine blk_alloc ?_ _)); exact BG.out) hb); clear HB BG; have HB := NB; have BG := X1; have B2 := Aside0.mk hbox; clear NB X1 hb hbox hg; have c0_ : w1.cell? ⟨g2, 0, none⟩ = some (.slice A l.length c) := (blk_cell B2.out 0).trans rfl; have c1_ : w1.cell? ⟨g2, 1, none⟩ = some (.int .i64 l1) := (blk_cell B2.out 1).trans rfl; have c2_ : w1.cell? ⟨g2, 2, none⟩ = some (.int .i64 l2) := (blk_cell B2.out 2).trans rfl; have c3_ : w1.cell? ⟨g2, 3, none⟩ = some (.int .i64 l3) := (blk_cell B2.out 3).trans rfl; have cg : w1.cell? ⟨g, 0, none⟩ = some (.int .i64 n) := (blk_cell BG.out 0).trans rfl) | (go_at_call 28; refine (X.dag_task.calls k A c l l1 l2 l3 n b _ (by repeat (first | exact (Kd.C_below HR.out HB.out) | (with_reducible refine Kd.C_alloc ?_ _) | (with_reducible refine Kd.C_drewN ?_ _) | (with_reducible refine Kd.C_drew ?_))) HC.out TH.out).mono ?_; rintro e w2 ⟨rfl, hb⟩; have HB1 := Aside0.mk (below_step (by repeat (first | (with_reducible first | exact HB.out | apply below_alloc | apply pw_below_drewN | apply below_drew1) | exact HB.out)) hb); clear hb))
  go_ret
  exact ⟨rfl, HB1.out⟩
def anyT (k : Nat) (n : Int) : List S39 → Option Bool
  | [] => some false
  | t :: ts => (X.dag_task.f k t.f0 t.f1 t.f2 t.f3 n).bind fun b => if b = true then anyT k n ts else some true
theorem anyT_mono (n : Int) (k : Nat) : ∀ l, LeO (anyT k n l) (anyT (k + 1) n l)
  | [] => LeO.refl _
  | t :: ts => by
    rw [anyT, anyT]
    exact LeO.bind (X.dag_task.mono _ _ _ _ _ _) fun _ => LeO.ite (anyT_mono n k ts) (LeO.refl _)
def dag_Right.f (k : Nat) (nm : ByteArray) (l0 : List S39) : Option Int :=
  if 10 < l0.length then some 2 else if l0.length < 1 then some 1 else if nm.size < 1 then some 1 else if 16 < nm.size then some 1 else
    (anyT k (l0.length : Int) l0).bind fun b => if b = true then some 1 else (X.dag_order.f k l0).bind fun o => if o.length < l0.length then some 160 else some 0
theorem dag_Right.mono : ∀ nm l0 k, LeO (dag_Right.f k nm l0) (dag_Right.f (k + 1) nm l0) := by
  intro nm l0 k
  unfold dag_Right.f
  exact LeO.ite (LeO.refl _) (LeO.ite (LeO.refl _) (LeO.ite (LeO.refl _) (LeO.ite (LeO.refl _) (LeO.bind (anyT_mono _ _ _) fun _ => LeO.ite (LeO.refl _) (LeO.bind (X.dag_order.mono _ _) fun _ => LeO.refl _)))))
set_option maxHeartbeats 2000000 in
theorem hasT_idx (k g : Nat) (nn : Int) (A0 : Option Addr) (c0 : Nat) (l0 : List S39) (r : Bool) (w : World) (hr0 : Kd.C k39 w A0 l0.length l0) (hl : l0.length ≤ 1000000) (h : anyT k nn l0 = some r) (hg : w.heap[g]? = some (.cells #[.int .i64 nn] 3 (0, 0))) :
    Calls Try.prog 43 #[.slice A0 l0.length c0, .func (.func 27) #[] #[.pointer (some ⟨g, 0, none⟩)]] w fun e w' => (∃ i : Int, e = .returned (.int .i64 i) ∧ decide (i ≥ 0) = r) ∧ Below w.heap.size w w' := by
  have hu39 := Try.underlying39
  have HR := Aside0.mk hr0
  have HL := Aside0.mk hl
  have HH := Aside0.mk h
  have BG := Aside0.mk hg
  clear hl h hr0 hg
  obtain ⟨n, hn⟩ : ∃ n : Nat, l0.length = n := ⟨_, rfl⟩
  rw [hn] at HR HL ⊢
  have HN := Aside0.mk hn
  clear hn
  go_enter Try.func43, Try.ntmps43
  go_wp2
  go_loopw [8] (fun i wr => ∃ q : Nat, q ≤ n ∧ i = .int .i64 q ∧ Aside0 (anyT k nn (l0.drop q) = some r) ∧ Aside0 (Below w.heap.size w wr)) (fun i _ => n - (intOf i).toNat)
  case atStart => exact ⟨0, Nat.zero_le _, rfl, HH, ⟨Below.refl _ _⟩⟩
  case round =>
    obtain ⟨q, hk, rfl, HA, HB⟩ := hrel
    by_cases hlt : q < n
    · have hn := HN.out
      have hbig := HL.out
      obtain ⟨ad, A8, c8, rfl, tx0, tx1, tx2, tx3, hl8, hr8⟩ := at_T39 (Kd.C_below HR.out HB.out) (q : Int) (by omega) (by omega)
      have et : rd_T39 l0 (q : Int) = l0[q]'(by omega) := by simp [rd_T39, List.getD_eq_getElem?_getD, List.getElem?_eq_getElem (show q < l0.length by omega)]
      have ha := HA.out
      rw [List.drop_eq_getElem_cons (by omega), anyT] at ha
      rw [et] at tx0 tx1 tx2 tx3 hl8 hr8
      have HR8 := Aside0.mk hr8
      have HC8 := Aside0.mk hl8
      have BW := Aside0.mk (blk_below BG.out HB.out)
      clear hr8 hl8 et
      generalize l0[q]'(by omega) = t at *
      rw [Int.toNat_natCast] at tx0 tx1 tx2 tx3
      obtain ⟨b, hb, ha2⟩ := Option.bind_eq_some_iff.1 ha
      have TT := Aside0.mk hb
      clear hb ha HA hn
      have HI := Aside0.mk (Below.refl wr.heap.size wr)
      cases b
      · rw [if_neg (by simp)] at ha2
        obtain rfl := Option.some.inj ha2
        clear ha2
        go_wp2_with (go_at_call 27; refine (task_test k g nn A8 c8 t _ TT.out _ (by repeat (first | exact HR8.out | (with_reducible refine Kd.C_alloc ?_ _) | (with_reducible refine Kd.C_drewN ?_ _) | (with_reducible refine Kd.C_drew ?_))) HC8.out (by (with_reducible repeat (first | refine blk_drewN ?_ _ | refine blk_drew ?_ | refine blk_alloc ?_ _)); exact BW.out)).mono ?_; rintro e w1 ⟨rfl, hb⟩; have HB1 := Aside0.mk (below_step (by repeat (first | (with_reducible first | exact HB.out | apply below_alloc | apply pw_below_drewN | apply below_drew1) | exact HB.out)) hb); clear hb)
        go_ret
        exact ⟨⟨_, rfl, by simp⟩, HB1.out⟩
      · rw [if_pos rfl] at ha2
        have HA := Aside0.mk ha2
        clear ha2
        go_wp2_with (go_at_call 27; refine (task_test k g nn A8 c8 t _ TT.out _ (by repeat (first | exact HR8.out | (with_reducible refine Kd.C_alloc ?_ _) | (with_reducible refine Kd.C_drewN ?_ _) | (with_reducible refine Kd.C_drew ?_))) HC8.out (by (with_reducible repeat (first | refine blk_drewN ?_ _ | refine blk_drew ?_ | refine blk_alloc ?_ _)); exact BW.out)).mono ?_; rintro e w1 ⟨rfl, hb⟩; have HB1 := Aside0.mk (below_step (by repeat (first | (with_reducible first | exact HB.out | apply below_alloc | apply pw_below_drewN | apply below_drew1) | exact HB.out)) hb); clear hb)
        go_roundw
        case rel => exact ⟨q + 1, by omega, by go_num, HA, HB1⟩
        case measure => simp [intOf]; omega
    · obtain rfl : q = n := by omega
      have ha := HA.out
      rw [List.drop_eq_nil_of_le (by rw [HN.out]; omega), anyT] at ha
      obtain rfl := Option.some.inj ha
      clear ha HA
      go_wp2
      go_ret
      exact ⟨⟨_, rfl, by simp⟩, HB.out⟩
theorem hasT_calls (k g : Nat) (nn : Int) (A0 : Option Addr) (c0 : Nat) (l0 : List S39) (r : Bool) (w : World) (hr0 : Kd.C k39 w A0 l0.length l0) (hl : l0.length ≤ 1000000) (h : anyT k nn l0 = some r) (hg : w.heap[g]? = some (.cells #[.int .i64 nn] 3 (0, 0))) :
    Calls Try.prog 26 #[.slice A0 l0.length c0, .func (.func 27) #[] #[.pointer (some ⟨g, 0, none⟩)]] w fun e w' => e = .returned (.bool r) ∧ Below w.heap.size w w' := by
  have K := Aside0.mk (hasT_idx k g nn A0 c0 l0 r w hr0 hl h hg)
  clear h hr0 hg
  go_enter Try.func26, Try.ntmps26
  go_wp2_with (go_at_call 43; refine K.out.mono ?_; rintro e w1 ⟨⟨i, rfl, hi⟩, hb⟩; have HI := Aside0.mk hi; have HB1 := Aside0.mk hb; clear hb hi)
  go_ret
  exact ⟨by rw [← HI.out]; rfl, HB1.out⟩
set_option maxHeartbeats 4000000 in
set_option maxRecDepth 100000 in
theorem dag_Right.calls (k : Nat) (nm : ByteArray) (A0 : Option Addr) (c0 : Nat) (l0 : List S39) (r : Int) (w : World) (hr0 : Kd.C k39 w A0 l0.length l0) (hc0 : l0.length ≤ c0) (h : dag_Right.f k nm l0 = some r) :
    Calls Try.prog 12 #[.agg #[.string nm, .slice A0 l0.length c0]] w fun e w' => e = .returned (.int .i64 r) ∧ Below w.heap.size w w' := by
  have hu24 := Try.underlying24
  have HR := Aside0.mk hr0
  have HC := Aside0.mk hc0
  have HB := Aside0.mk (Below.refl w.heap.size w)
  unfold dag_Right.f at h
  clear hr0 hc0
  go_enter Try.func12, Try.ntmps12
  go_upto_region 2 with (first | ((with_reducible refine gate_dst (N := 1) rfl ?_); refine box_event ?hg (N := 1) ?hd (cs := #[.string nm, .slice A0 l0.length c0]) (t := 24) ?hr ?_; (case hd => rfl); (case hg => rfl); (case hr => first | (go_simp; done) | (go_simp; rfl)); intro g1 hg w1 hbox hb; have G1 := Aside0.mk (show w.heap.size ≤ g1 by rw [hg]; exact below_size (by repeat (first | (with_reducible first | exact HB.out | apply below_alloc | apply pw_below_drewN | apply below_drew1) | exact HB.out))); have NB := Aside0.mk (below_step (by repeat (first | (with_reducible first | exact HB.out | apply below_alloc | apply pw_below_drewN | apply below_drew1) | exact HB.out)) hb); clear HB; have HB := NB; have B1 := Aside0.mk hbox; clear NB hb hbox hg; have b0 : w1.cell? ⟨g1, 0, none⟩ = some (.string nm) := (blk_cell B1.out 0).trans rfl; have b1 : w1.cell? ⟨g1, 1, none⟩ = some (.slice A0 l0.length c0) := (blk_cell B1.out 1).trans rfl) | ((with_reducible refine gate_dst (N := 3) rfl ?_); refine box_event ?hg (N := 3) ?hd (cs := #[.int .i64 0]) (t := 3) ?hr ?_; (case hd => rfl); (case hg => rfl); (case hr => first | (go_simp; done) | (go_simp; rfl)); intro g3 hg w2 hbox hb; have G3 := Aside0.mk (show w.heap.size ≤ g3 by rw [hg]; exact below_size (by repeat (first | (with_reducible first | exact HB.out | apply below_alloc | apply pw_below_drewN | apply below_drew1) | exact HB.out))); have X1 := Aside0.mk (blk_below (o := .cells #[.string nm, .slice A0 l0.length c0] 24 (0, 0)) (by (with_reducible repeat (first | refine blk_drewN ?_ _ | refine blk_drew ?_ | refine blk_alloc ?_ _)); exact B1.out) hb); have N13 := Aside0.mk (show g1 ≠ g3 by rw [hg]; exact Nat.ne_of_lt (blk_lt (o := .cells #[.string nm, .slice A0 l0.length c0] 24 (0, 0)) (by (with_reducible repeat (first | refine blk_drewN ?_ _ | refine blk_drew ?_ | refine blk_alloc ?_ _)); exact B1.out))); have NB := Aside0.mk (below_step (by repeat (first | (with_reducible first | exact HB.out | apply below_alloc | apply pw_below_drewN | apply below_drew1) | exact HB.out)) hb); clear HB B1; have HB := NB; have B1 := X1; have B3 := Aside0.mk hbox; clear NB X1 hb hbox hg; have c30 : w2.cell? ⟨g3, 0, none⟩ = some (.int .i64 0) := (blk_cell B3.out 0).trans rfl; have f30 := blk_frozen B3.out 0))
  have X3 := Aside0.mk (show (w2.setCell ⟨g3, 0, none⟩ (.int .i64 (l0.length : Int))).heap[g3]? = some (.cells #[.int .i64 (l0.length : Int)] 3 (0, 0)) from blk_put (cs := #[.int .i64 0]) B3.out 0 _ rfl)
  have X1 := Aside0.mk (show (w2.setCell ⟨g3, 0, none⟩ (.int .i64 (l0.length : Int))).heap[g1]? = some (.cells #[.string nm, .slice A0 l0.length c0] 24 (0, 0)) from blk_far B1.out N13.out _)
  have XB := Aside0.mk (show Below w.heap.size w (w2.setCell ⟨g3, 0, none⟩ (.int .i64 (l0.length : Int))) from below_set HB.out G3.out)
  clear HB B1 B3 c30 f30 b0 b1
  have HB := XB
  have B1 := X1
  have B3 := X3
  clear XB X1 X3
  generalize w2.setCell ⟨g3, 0, none⟩ (.int .i64 (l0.length : Int)) = w3 at *
  have b0 : w3.cell? ⟨g1, 0, none⟩ = some (.string nm) := (blk_cell B1.out 0).trans rfl; have b1 : w3.cell? ⟨g1, 1, none⟩ = some (.slice A0 l0.length c0) := (blk_cell B1.out 1).trans rfl; have b3 : w3.cell? ⟨g3, 0, none⟩ = some (.int .i64 (l0.length : Int)) := (blk_cell B3.out 0).trans rfl
  have hn1 := N13.out
  have hn2 := N13.out.symm
  by_cases h1 : 10 < l0.length
  · rw [if_pos h1] at h
    obtain rfl := Option.some.inj h
    have e1 : decide ((10 : Int) < (l0.length : Int)) = true := decide_eq_true (by omega)
    go_wp2
    go_ret
    exact ⟨rfl, HB.out⟩
  rw [if_neg h1] at h
  have HL : Aside0 (l0.length ≤ 10) := ⟨by omega⟩
  have e1 : decide ((10 : Int) < (l0.length : Int)) = false := decide_eq_false (by omega)
  by_cases h2 : l0.length < 1
  · rw [if_pos h2] at h
    obtain rfl := Option.some.inj h
    have e2 : decide ((l0.length : Int) < 1) = true := decide_eq_true (by omega)
    go_wp2
    go_ret
    exact ⟨rfl, HB.out⟩
  rw [if_neg h2] at h
  have e2 : decide ((l0.length : Int) < 1) = false := decide_eq_false (by omega)
  by_cases h3 : nm.size < 1
  · rw [if_pos h3] at h
    obtain rfl := Option.some.inj h
    have e3 : decide ((nm.size : Int) < 1) = true := decide_eq_true (by omega)
    go_wp2
    go_ret
    exact ⟨rfl, HB.out⟩
  rw [if_neg h3] at h
  have e3 : decide ((nm.size : Int) < 1) = false := decide_eq_false (by omega)
  by_cases h4 : 16 < nm.size
  · rw [if_pos h4] at h
    obtain rfl := Option.some.inj h
    have e4 : decide ((16 : Int) < (nm.size : Int)) = true := decide_eq_true (by omega)
    go_wp2
    go_ret
    exact ⟨rfl, HB.out⟩
  rw [if_neg h4] at h
  have e4 : decide ((16 : Int) < (nm.size : Int)) = false := decide_eq_false (by omega)
  obtain ⟨b, hb0, h⟩ := Option.bind_eq_some_iff.1 h
  have TA := Aside0.mk hb0
  clear hb0 h1 h2 h3 h4
  cases b
  case true =>
    rw [if_pos rfl] at h
    obtain rfl := Option.some.inj h
    go_wp2_with (go_at_call 26; refine (hasT_calls k g3 (l0.length : Int) A0 c0 l0 _ _ (by repeat (first | exact (Kd.C_below HR.out HB.out) | (with_reducible refine Kd.C_alloc ?_ _) | (with_reducible refine Kd.C_drewN ?_ _) | (with_reducible refine Kd.C_drew ?_))) (by have := HL.out; omega) TA.out (by (with_reducible repeat (first | refine blk_drewN ?_ _ | refine blk_drew ?_ | refine blk_alloc ?_ _)); exact B3.out)).mono ?_; rintro e w4 ⟨rfl, hb⟩; have X1 := Aside0.mk (blk_below (o := .cells #[.string nm, .slice A0 l0.length c0] 24 (0, 0)) (by (with_reducible repeat (first | refine blk_drewN ?_ _ | refine blk_drew ?_ | refine blk_alloc ?_ _)); exact B1.out) hb); have X3 := Aside0.mk (blk_below (o := .cells #[.int .i64 (l0.length : Int)] 3 (0, 0)) (by (with_reducible repeat (first | refine blk_drewN ?_ _ | refine blk_drew ?_ | refine blk_alloc ?_ _)); exact B3.out) hb); have XB := Aside0.mk (below_step (by repeat (first | (with_reducible first | exact HB.out | apply below_alloc | apply pw_below_drewN | apply below_drew1) | exact HB.out)) hb); clear hb B1 B3 HB; have B1 := X1; have B3 := X3; have HB := XB; clear X1 X3 XB; have b0 : w4.cell? ⟨g1, 0, none⟩ = some (.string nm) := (blk_cell B1.out 0).trans rfl; have b1 : w4.cell? ⟨g1, 1, none⟩ = some (.slice A0 l0.length c0) := (blk_cell B1.out 1).trans rfl; have b3 : w4.cell? ⟨g3, 0, none⟩ = some (.int .i64 (l0.length : Int)) := (blk_cell B3.out 0).trans rfl)
    go_ret
    exact ⟨rfl, HB.out⟩
  rw [if_neg (by simp)] at h
  obtain ⟨o, ho, h⟩ := Option.bind_eq_some_iff.1 h
  have TO := Aside0.mk ho
  clear ho
  go_upto_region 6 with (go_at_call 26; refine (hasT_calls k g3 (l0.length : Int) A0 c0 l0 _ _ (by repeat (first | exact (Kd.C_below HR.out HB.out) | (with_reducible refine Kd.C_alloc ?_ _) | (with_reducible refine Kd.C_drewN ?_ _) | (with_reducible refine Kd.C_drew ?_))) (by have := HL.out; omega) TA.out (by (with_reducible repeat (first | refine blk_drewN ?_ _ | refine blk_drew ?_ | refine blk_alloc ?_ _)); exact B3.out)).mono ?_; rintro e w4 ⟨rfl, hb⟩; have X1 := Aside0.mk (blk_below (o := .cells #[.string nm, .slice A0 l0.length c0] 24 (0, 0)) (by (with_reducible repeat (first | refine blk_drewN ?_ _ | refine blk_drew ?_ | refine blk_alloc ?_ _)); exact B1.out) hb); have X3 := Aside0.mk (blk_below (o := .cells #[.int .i64 (l0.length : Int)] 3 (0, 0)) (by (with_reducible repeat (first | refine blk_drewN ?_ _ | refine blk_drew ?_ | refine blk_alloc ?_ _)); exact B3.out) hb); have XB := Aside0.mk (below_step (by repeat (first | (with_reducible first | exact HB.out | apply below_alloc | apply pw_below_drewN | apply below_drew1) | exact HB.out)) hb); clear hb B1 B3 HB; have B1 := X1; have B3 := X3; have HB := XB; clear X1 X3 XB; have b0 : w4.cell? ⟨g1, 0, none⟩ = some (.string nm) := (blk_cell B1.out 0).trans rfl; have b1 : w4.cell? ⟨g1, 1, none⟩ = some (.slice A0 l0.length c0) := (blk_cell B1.out 1).trans rfl; have b3 : w4.cell? ⟨g3, 0, none⟩ = some (.int .i64 (l0.length : Int)) := (blk_cell B3.out 0).trans rfl)
  by_cases h5 : o.length < l0.length
  · rw [if_pos h5] at h
    obtain rfl := Option.some.inj h
    have e5 : decide ((o.length : Int) < (l0.length : Int)) = true := decide_eq_true (by omega)
    go_region_with (go_at_call 24; refine (X.dag_order.calls k A0 c0 l0 o _ (by repeat (first | exact (Kd.C_below HR.out HB.out) | (with_reducible refine Kd.C_alloc ?_ _) | (with_reducible refine Kd.C_drewN ?_ _) | (with_reducible refine Kd.C_drew ?_))) HC.out TO.out).mono ?_; rintro e w5 ⟨v, rfl, ho, hb⟩; obtain ⟨Ao, co, rfl⟩ := Kd.R_slice ho; clear ho; have X1 := Aside0.mk (blk_below (o := .cells #[.string nm, .slice A0 l0.length c0] 24 (0, 0)) (by (with_reducible repeat (first | refine blk_drewN ?_ _ | refine blk_drew ?_ | refine blk_alloc ?_ _)); exact B1.out) hb); have X3 := Aside0.mk (blk_below (o := .cells #[.int .i64 (l0.length : Int)] 3 (0, 0)) (by (with_reducible repeat (first | refine blk_drewN ?_ _ | refine blk_drew ?_ | refine blk_alloc ?_ _)); exact B3.out) hb); have XB := Aside0.mk (below_step (by repeat (first | (with_reducible first | exact HB.out | apply below_alloc | apply pw_below_drewN | apply below_drew1) | exact HB.out)) hb); clear hb B1 B3 HB; have B1 := X1; have B3 := X3; have HB := XB; clear X1 X3 XB; have b0 : w5.cell? ⟨g1, 0, none⟩ = some (.string nm) := (blk_cell B1.out 0).trans rfl; have b1 : w5.cell? ⟨g1, 1, none⟩ = some (.slice A0 l0.length c0) := (blk_cell B1.out 1).trans rfl; have b3 : w5.cell? ⟨g3, 0, none⟩ = some (.int .i64 (l0.length : Int)) := (blk_cell B3.out 0).trans rfl)
    all_goals
      first
        | (exfalso; omega)
        | (go_wp2
           go_ret
           exact ⟨rfl, (by repeat (first | (with_reducible first | exact HB.out | apply below_alloc | apply pw_below_drewN | apply below_drew1) | exact HB.out))⟩)
  · rw [if_neg h5] at h
    obtain rfl := Option.some.inj h
    have e5 : decide ((o.length : Int) < (l0.length : Int)) = false := decide_eq_false (by omega)
    go_region_with (go_at_call 24; refine (X.dag_order.calls k A0 c0 l0 o _ (by repeat (first | exact (Kd.C_below HR.out HB.out) | (with_reducible refine Kd.C_alloc ?_ _) | (with_reducible refine Kd.C_drewN ?_ _) | (with_reducible refine Kd.C_drew ?_))) HC.out TO.out).mono ?_; rintro e w5 ⟨v, rfl, ho, hb⟩; obtain ⟨Ao, co, rfl⟩ := Kd.R_slice ho; clear ho; have X1 := Aside0.mk (blk_below (o := .cells #[.string nm, .slice A0 l0.length c0] 24 (0, 0)) (by (with_reducible repeat (first | refine blk_drewN ?_ _ | refine blk_drew ?_ | refine blk_alloc ?_ _)); exact B1.out) hb); have X3 := Aside0.mk (blk_below (o := .cells #[.int .i64 (l0.length : Int)] 3 (0, 0)) (by (with_reducible repeat (first | refine blk_drewN ?_ _ | refine blk_drew ?_ | refine blk_alloc ?_ _)); exact B3.out) hb); have XB := Aside0.mk (below_step (by repeat (first | (with_reducible first | exact HB.out | apply below_alloc | apply pw_below_drewN | apply below_drew1) | exact HB.out)) hb); clear hb B1 B3 HB; have B1 := X1; have B3 := X3; have HB := XB; clear X1 X3 XB; have b0 : w5.cell? ⟨g1, 0, none⟩ = some (.string nm) := (blk_cell B1.out 0).trans rfl; have b1 : w5.cell? ⟨g1, 1, none⟩ = some (.slice A0 l0.length c0) := (blk_cell B1.out 1).trans rfl; have b3 : w5.cell? ⟨g3, 0, none⟩ = some (.int .i64 (l0.length : Int)) := (blk_cell B3.out 0).trans rfl)
    all_goals
      first
        | (exfalso; omega)
        | (go_wp2
           go_ret
           exact ⟨rfl, (by repeat (first | (with_reducible first | exact HB.out | apply below_alloc | apply pw_below_drewN | apply below_drew1) | exact HB.out))⟩)
end Go.Proofs.Ytbgmhcefjggpgaa
