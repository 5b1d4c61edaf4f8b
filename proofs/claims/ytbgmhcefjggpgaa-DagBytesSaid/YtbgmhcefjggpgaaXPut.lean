/- The bytes of a graph (dag.Put): what the machine's call comes to, as a plain function. -/
import Derived.Test.YtbgmhcefjggpgaaXRight
import Derived.Test.YtbgmhcefjggpgaaPx2
import Derived.Deep.LoopGhost
namespace Go.Proofs.Ytbgmhcefjggpgaa
open Go.RowKit Go.Proofs.YtbgmhcefjggpgaaW.PrintWords Go.Proofs.YtbgmhcefjggpgaaW.PrintLast Go.Proofs.YtbgmhcefjggpgaaW.PrintMore
open X (S39 k39 rd_T39 at_T39 z39)
set_option linter.unusedVariables false

def addF (k : Nat) (out : ByteArray) (n sz : Int) : Option ByteArray := (P.code_Put.f k n sz).bind fun t => code_All.f [out, t.1]
theorem addF_mono (out : ByteArray) (n sz : Int) (k : Nat) : LeO (addF k out n sz) (addF (k + 1) out n sz) := LeO.bind (P.code_Put.mono _ _ _) fun _ => LeO.refl _
set_option maxHeartbeats 1000000 in
theorem add_calls (k g : Nat) (out : ByteArray) (n sz : Int) (o : ByteArray) (h : addF k out n sz = some o) (w : World) (hg : w.heap[g]? = some (.cells #[.string out] 9 (0, 0))) (w0 : World) (h0 : Below w0.heap.size w0 w) (hg0 : w0.heap.size ≤ g) :
    Calls Try.prog 32 #[.int .i64 n, .int .i64 sz, .pointer (some ⟨g, 0, none⟩)] w fun e w' => e = .returned (.tuple #[]) ∧ w'.heap[g]? = some (.cells #[.string o] 9 (0, 0)) ∧ KeepBut w w' g none ∧ Below w0.heap.size w0 w' := by
  obtain ⟨⟨t, e_⟩, h1, h2⟩ := Option.bind_eq_some_iff.1 h
  simp only at h2
  have H1 := Aside0.mk h1
  have H2 := Aside0.mk h2
  have BG := Aside0.mk hg
  have H0 := Aside0.mk h0
  have G0 := Aside0.mk hg0
  have HB := Aside0.mk (Below.refl w.heap.size w)
  clear h h1 h2 hg h0 hg0
  go_enter Try.func32, Try.ntmps32
  go_wp2_with (first | (go_at_call 33; refine (P.code_Put.calls k n sz _ _ _ H1.out).mono ?_; rintro e w1 ⟨rfl, hb⟩; have B1 := Aside0.mk (blk_below BG.out hb); have c1 : w1.cell? ⟨g, 0, none⟩ = some (.string out) := (blk_cell B1.out 0).trans rfl; have f1 := blk_frozen B1.out 0; have HB1 := Aside0.mk hb; clear hb; clear HB; have HB := HB1; clear HB1) | ((with_reducible refine gate_dst (N := 15) rfl ?_); refine Kd.R_lit Kd.string _ 9 ?hg (N := 15) ?hd (xs := ([out, t] : List ByteArray)) (inner := [.string out, .string t]) (ok := fun _ => True) (okp := fun _ => True) ?hr ?hp (fun _ hk => hk) trivial (Below.refl _ _) (Nat.le_refl _) (by simp) ?_; (case hd => rfl); (case hg => rfl); (case hr => first | (go_simp; done) | (go_simp; rfl)); (case hp => exact (Reps.one (show Kd.M Kd.string _ _ _ out [.string out] from rfl) (Reps.one (show Kd.M Kd.string _ _ _ t [.string t] from rfl) (Reps.none _ _)))); intro v182 w6 ho7 hb hg_ hnew_; clear hg_ hnew_; have B2 := Aside0.mk (blk_below (o := .cells #[.string out] 9 (0, 0)) (by (with_reducible repeat (first | refine blk_drewN ?_ _ | refine blk_drew ?_ | refine blk_alloc ?_ _)); exact B1.out) hb); have HB2 := Aside0.mk (below_step (by repeat (first | (with_reducible first | exact HB.out | apply below_alloc | apply pw_below_drewN | apply below_drew1) | exact HB.out)) hb); have HO := Aside0.mk ho7; clear hb ho7 HB; have HB := HB2; clear HB2; obtain ⟨Ao8, co8, eo8⟩ := Kd.R_slice HO.out; subst eo8) | (go_at_call 34; refine (code_All.calls _ _ [out, t] o _ (by repeat (first | exact (Kd.R_reads' HO.out).2.2 | (with_reducible refine Kd.C_alloc ?_ _) | (with_reducible refine Kd.C_drewN ?_ _) | (with_reducible refine Kd.C_drew ?_))) (Kd.R_reads' HO.out).2.1 H2.out).mono ?_; rintro e w7 ⟨rfl, hb⟩; have B3 := Aside0.mk (blk_below (o := .cells #[.string out] 9 (0, 0)) (by (with_reducible repeat (first | refine blk_drewN ?_ _ | refine blk_drew ?_ | refine blk_alloc ?_ _)); exact B2.out) hb); have c3 : w7.cell? ⟨g, 0, none⟩ = some (.string out) := (blk_cell B3.out 0).trans rfl; have f3 := blk_frozen B3.out 0; have HB3 := Aside0.mk (below_step (by repeat (first | (with_reducible first | exact HB.out | apply below_alloc | apply pw_below_drewN | apply below_drew1) | exact HB.out)) hb); clear hb; clear HB; have HB := HB3; clear HB3))
  go_end0
  refine ⟨rfl, ?_, ?_, ?_⟩
  · (with_reducible repeat (first | refine blk_drewN ?_ _ | refine blk_drew ?_ | refine blk_alloc ?_ _))
    refine blk_put (cs := #[.string out]) ?_ 0 _ rfl
    (with_reducible repeat (first | refine blk_drewN ?_ _ | refine blk_drew ?_ | refine blk_alloc ?_ _))
    exact B3.out
  · (with_reducible repeat (first | refine keep_drewN ?_ _ | refine keep_alloc ?_ _))
    refine KeepBut.set_ ?_ 0 _
    refine KeepBut.of_below ?_ _ _
    repeat (first | (with_reducible first | exact HB.out | apply below_alloc | apply pw_below_drewN | apply below_drew1) | exact HB.out)
  · (with_reducible repeat (first | apply pw_below_drewN | apply below_drew1 | apply below_alloc))
    refine below_set ?_ G0.out
    refine below_step H0.out ?_
    repeat (first | (with_reducible first | exact HB.out | apply below_alloc | apply pw_below_drewN | apply below_drew1) | exact HB.out)
def putNeeds (k : Nat) : List Int → ByteArray → Option ByteArray
  | [], out => some out
  | x :: xs, out => (addF k out x 1).bind fun o => putNeeds k xs o
def putTasks (k : Nat) : List S39 → ByteArray → Option ByteArray
  | [], out => some out
  | t :: ts, out => if t.f0.length ≤ 1000000 then (addF k out (t.f0.length : Int) 1).bind fun o1 => (putNeeds k t.f0 o1).bind fun o2 => (addF k o2 t.f1 1).bind fun o3 => (addF k o3 t.f2 3).bind fun o4 => (addF k o4 t.f3 3).bind fun o5 => putTasks k ts o5 else none
def dag_Put.f (k : Nat) (nm : ByteArray) (l0 : List S39) : Option (ByteArray × Int) :=
  (dag_Right.f k nm l0).bind fun r => if r = 0 then (if l0.length ≤ 1000000 then (P.code_Text.f k nm).bind fun t => (addF k t.1 (l0.length : Int) 1).bind fun o => (putTasks k l0 o).map fun o' => (o', (0 : Int)) else none) else some (⟨#[]⟩, r)
theorem putNeeds_mono (k : Nat) : ∀ l o, LeO (putNeeds k l o) (putNeeds (k + 1) l o)
  | [], _ => LeO.refl _
  | x :: xs, o => by
    rw [putNeeds, putNeeds]
    exact LeO.bind (addF_mono _ _ _ _) fun _ => putNeeds_mono k xs _
theorem putTasks_mono (k : Nat) : ∀ l o, LeO (putTasks k l o) (putTasks (k + 1) l o)
  | [], _ => LeO.refl _
  | t :: ts, o => by
    rw [putTasks, putTasks]
    exact LeO.ite (LeO.bind (addF_mono _ _ _ _) fun _ => LeO.bind (putNeeds_mono _ _ _) fun _ => LeO.bind (addF_mono _ _ _ _) fun _ => LeO.bind (addF_mono _ _ _ _) fun _ => LeO.bind (addF_mono _ _ _ _) fun _ => putTasks_mono k ts _) (LeO.refl _)
theorem dag_Put.mono : ∀ nm l0 k, LeO (dag_Put.f k nm l0) (dag_Put.f (k + 1) nm l0) := by
  intro nm l0 k
  unfold dag_Put.f
  refine LeO.bind (dag_Right.mono _ _ _) fun r => LeO.ite (LeO.ite (LeO.bind (P.code_Text.mono _ _) fun t => LeO.bind (addF_mono _ _ _ _) fun o => ?_) (LeO.refl _)) (LeO.refl _)
  intro r h
  obtain ⟨o', ho, rfl⟩ := Option.map_eq_some_iff.1 h
  rw [putTasks_mono k _ _ o' ho]; rfl
set_option maxHeartbeats 4000000 in
set_option maxRecDepth 100000 in
theorem dag_Put.calls (k : Nat) (nm : ByteArray) (A0 : Option Addr) (c0 : Nat) (l0 : List S39) (r1 : ByteArray) (r2 : Int) (w : World) (hr0 : Kd.C k39 w A0 l0.length l0) (hc0 : l0.length ≤ c0) (h : dag_Put.f k nm l0 = some (r1, r2)) :
    Calls Try.prog 17 #[.agg #[.string nm, .slice A0 l0.length c0]] w fun e w' => e = .returned (.tuple #[.string r1, .int .i64 r2]) ∧ Below w.heap.size w w' := by
  have hu24 := Try.underlying24
  have hu39 := Try.underlying39
  have HR := Aside0.mk hr0
  have HC := Aside0.mk hc0
  have HB := Aside0.mk (Below.refl w.heap.size w)
  unfold dag_Put.f at h
  clear hr0 hc0
  obtain ⟨r, h1, h⟩ := Option.bind_eq_some_iff.1 h
  have H1 := Aside0.mk h1
  clear h1
  by_cases hr : r = 0
  case neg =>
    rw [if_neg hr] at h
    simp only [Option.some.injEq, Prod.mk.injEq] at h
    obtain ⟨rfl, rfl⟩ := h
    have e1 : (r != 0) = true := bne_iff_ne.mpr hr
    clear hr
    go_enter Try.func17, Try.ntmps17
    go_wp2_with (first | ((with_reducible refine gate_dst (N := 1) rfl ?_); refine box_event ?hg (N := 1) ?hd (cs := #[.string nm, .slice A0 l0.length c0]) (t := 24) ?hr ?_; (case hd => rfl); (case hg => rfl); (case hr => first | (go_simp; done) | (go_simp; rfl)); intro g1 hg w1 hbox hb; have G1 := Aside0.mk (show w.heap.size ≤ g1 by rw [hg]; exact below_size (by repeat (first | (with_reducible first | exact HB.out | apply below_alloc | apply pw_below_drewN | apply below_drew1) | exact HB.out))); have NB := Aside0.mk (below_step (by repeat (first | (with_reducible first | exact HB.out | apply below_alloc | apply pw_below_drewN | apply below_drew1) | exact HB.out)) hb); clear HB; have HB := NB; have B1 := Aside0.mk hbox; clear NB hb hbox hg; have b0 : w1.cell? ⟨g1, 0, none⟩ = some (.string nm) := (blk_cell B1.out 0).trans rfl; have b1 : w1.cell? ⟨g1, 1, none⟩ = some (.slice A0 l0.length c0) := (blk_cell B1.out 1).trans rfl) | (go_at_call 12; refine (dag_Right.calls k nm A0 c0 l0 r _ (by repeat (first | exact (Kd.C_below HR.out HB.out) | (with_reducible refine Kd.C_alloc ?_ _) | (with_reducible refine Kd.C_drewN ?_ _) | (with_reducible refine Kd.C_drew ?_))) HC.out H1.out).mono ?_; rintro e w2 ⟨rfl, hb⟩; have X1 := Aside0.mk (blk_below (o := .cells #[.string nm, .slice A0 l0.length c0] 24 (0, 0)) (by (with_reducible repeat (first | refine blk_drewN ?_ _ | refine blk_drew ?_ | refine blk_alloc ?_ _)); exact B1.out) hb); have XB := Aside0.mk (below_step (by repeat (first | (with_reducible first | exact HB.out | apply below_alloc | apply pw_below_drewN | apply below_drew1) | exact HB.out)) hb); clear hb B1 HB; have B1 := X1; have HB := XB; clear X1 XB; have b0 : w2.cell? ⟨g1, 0, none⟩ = some (.string nm) := (blk_cell B1.out 0).trans rfl; have b1 : w2.cell? ⟨g1, 1, none⟩ = some (.slice A0 l0.length c0) := (blk_cell B1.out 1).trans rfl))
    go_ret2
    exact ⟨rfl, HB.out⟩
  subst hr
  rw [if_pos rfl] at h
  by_cases hl : l0.length ≤ 1000000
  case neg => rw [if_neg hl] at h; cases h
  rw [if_pos hl] at h
  obtain ⟨⟨t, te⟩, h2, h⟩ := Option.bind_eq_some_iff.1 h
  obtain ⟨o, h3, h⟩ := Option.bind_eq_some_iff.1 h
  obtain ⟨o', h4, he⟩ := Option.map_eq_some_iff.1 h
  simp only [Prod.mk.injEq] at h3 he
  obtain ⟨rfl, rfl⟩ := he
  have H2 := Aside0.mk h2
  have H3 := Aside0.mk h3
  have H4 := Aside0.mk h4
  have HL := Aside0.mk hl
  clear h2 h3 h4 h hl
  go_enter Try.func17, Try.ntmps17
  go_upto_region 5 with (first | ((with_reducible refine gate_dst (N := 1) rfl ?_); refine box_event ?hg (N := 1) ?hd (cs := #[.string nm, .slice A0 l0.length c0]) (t := 24) ?hr ?_; (case hd => rfl); (case hg => rfl); (case hr => first | (go_simp; done) | (go_simp; rfl)); intro g1 hg w1 hbox hb; have G1 := Aside0.mk (show w.heap.size ≤ g1 by rw [hg]; exact below_size (by repeat (first | (with_reducible first | exact HB.out | apply below_alloc | apply pw_below_drewN | apply below_drew1) | exact HB.out))); have NB := Aside0.mk (below_step (by repeat (first | (with_reducible first | exact HB.out | apply below_alloc | apply pw_below_drewN | apply below_drew1) | exact HB.out)) hb); clear HB; have HB := NB; have B1 := Aside0.mk hbox; clear NB hb hbox hg; have b0 : w1.cell? ⟨g1, 0, none⟩ = some (.string nm) := (blk_cell B1.out 0).trans rfl; have b1 : w1.cell? ⟨g1, 1, none⟩ = some (.slice A0 l0.length c0) := (blk_cell B1.out 1).trans rfl) | (go_at_call 12; refine (dag_Right.calls k nm A0 c0 l0 0 _ (by repeat (first | exact (Kd.C_below HR.out HB.out) | (with_reducible refine Kd.C_alloc ?_ _) | (with_reducible refine Kd.C_drewN ?_ _) | (with_reducible refine Kd.C_drew ?_))) HC.out H1.out).mono ?_; rintro e w2 ⟨rfl, hb⟩; have X1 := Aside0.mk (blk_below (o := .cells #[.string nm, .slice A0 l0.length c0] 24 (0, 0)) (by (with_reducible repeat (first | refine blk_drewN ?_ _ | refine blk_drew ?_ | refine blk_alloc ?_ _)); exact B1.out) hb); have XB := Aside0.mk (below_step (by repeat (first | (with_reducible first | exact HB.out | apply below_alloc | apply pw_below_drewN | apply below_drew1) | exact HB.out)) hb); clear hb B1 HB; have B1 := X1; have HB := XB; clear X1 XB; have b0 : w2.cell? ⟨g1, 0, none⟩ = some (.string nm) := (blk_cell B1.out 0).trans rfl; have b1 : w2.cell? ⟨g1, 1, none⟩ = some (.slice A0 l0.length c0) := (blk_cell B1.out 1).trans rfl) | (go_at_call 31; refine (P.code_Text.calls k nm t te _ H2.out).mono ?_; rintro e w3 ⟨rfl, hb⟩; have X1 := Aside0.mk (blk_below (o := .cells #[.string nm, .slice A0 l0.length c0] 24 (0, 0)) (by (with_reducible repeat (first | refine blk_drewN ?_ _ | refine blk_drew ?_ | refine blk_alloc ?_ _)); exact B1.out) hb); have XB := Aside0.mk (below_step (by repeat (first | (with_reducible first | exact HB.out | apply below_alloc | apply pw_below_drewN | apply below_drew1) | exact HB.out)) hb); clear hb B1 HB; have B1 := X1; have HB := XB; clear X1 XB; have b0 : w3.cell? ⟨g1, 0, none⟩ = some (.string nm) := (blk_cell B1.out 0).trans rfl; have b1 : w3.cell? ⟨g1, 1, none⟩ = some (.slice A0 l0.length c0) := (blk_cell B1.out 1).trans rfl))
  have B5 := Aside0.mk (blk_new w3 (.cells #[.string t] 9 (0, 0)))
  have X1 := Aside0.mk (blk_alloc B1.out (.cells #[.string t] 9 (0, 0)))
  have X2 := Aside0.mk (show Below w.heap.size w (w3.alloc (.cells #[.string t] 9 (0, 0))) from below_alloc HB.out _)
  have N15 := Aside0.mk (show g1 ≠ w3.heap.size from Nat.ne_of_lt (blk_lt B1.out))
  have G5 := Aside0.mk (show w.heap.size ≤ w3.heap.size from below_size HB.out)
  clear B1 HB b0 b1
  have B1 := X1
  have HB := X2
  clear X1 X2
  generalize w3.alloc (.cells #[.string t] 9 (0, 0)) = w4 at *
  generalize w3.heap.size = g5 at *
  have b0 : w4.cell? ⟨g1, 0, none⟩ = some (.string nm) := (blk_cell B1.out 0).trans rfl; have b1 : w4.cell? ⟨g1, 1, none⟩ = some (.slice A0 l0.length c0) := (blk_cell B1.out 1).trans rfl
  go_upto_region 7 with (go_at_call 32; refine (add_calls k g5 t (l0.length : Int) 1 o H3.out _ (by (with_reducible repeat (first | refine blk_drewN ?_ _ | refine blk_drew ?_ | refine blk_alloc ?_ _)); exact B5.out) w (by repeat (first | (with_reducible first | exact HB.out | apply below_alloc | apply pw_below_drewN | apply below_drew1) | exact HB.out)) G5.out).mono ?_; rintro e w5 ⟨rfl, hb4, hk, hb⟩; have X5 := Aside0.mk hb4; have X1 := Aside0.mk (KeepBut.blk (o := .cells #[.string nm, .slice A0 l0.length c0] 24 (0, 0)) hk (by (with_reducible repeat (first | refine blk_drewN ?_ _ | refine blk_drew ?_ | refine blk_alloc ?_ _)); exact B1.out) N15.out (by simp)); have XB := Aside0.mk hb; clear B1 B5 HB ; have B1 := X1; have B5 := X5; have HB := XB; clear X1 X5 XB hb4 hk hb; have b0 : w5.cell? ⟨g1, 0, none⟩ = some (.string nm) := (blk_cell B1.out 0).trans rfl; have b1 : w5.cell? ⟨g1, 1, none⟩ = some (.slice A0 l0.length c0) := (blk_cell B1.out 1).trans rfl)
  go_wp2
  clear b0 b1
  go_loopg [32] l0.length (fun kq v32 w' => ∃ (q : Nat) (ob : ByteArray), v32 = .int .i64 q ∧ Aside0 (q + kq = l0.length) ∧ Aside0 (putTasks k (l0.drop q) ob = some o') ∧ Aside0 (w'.heap[g1]? = some (.cells #[.string nm, .slice A0 l0.length c0] 24 (0, 0))) ∧ Aside0 (w'.heap[g5]? = some (.cells #[.string ob] 9 (0, 0))) ∧ Aside0 (Below w.heap.size w w'))
  case atStart => exact ⟨0, o, rfl, ⟨by omega⟩, H4, B1, B5, HB⟩
  case round =>
    clear B1 B5 HB H4
    obtain ⟨q, ob, rfl, HQ, HS, B1, B5, HB⟩ := hrel
    by_cases hlt : q < l0.length
    · obtain ⟨k2, rfl⟩ : ∃ k2, gk = k2 + 1 := ⟨gk - 1, by have := HQ.out; omega⟩
      have hs := HS.out
      rw [List.drop_eq_getElem_cons hlt, putTasks] at hs
      obtain ⟨ad, A8, c8, rfl, tx0, tx1, tx2, tx3, hl8, hr8⟩ := at_T39 (Kd.C_below HR.out HB.out) (q : Int) (by omega) (by omega)
      have et : rd_T39 l0 (q : Int) = l0[q] := by simp [rd_T39, List.getD_eq_getElem?_getD, List.getElem?_eq_getElem hlt]
      rw [et] at tx0 tx1 tx2 tx3 hl8 hr8
      have HR8 : Aside0 (Kd.C (Kd.int .i64) w A8 l0[q].f0.length l0[q].f0) := by
        obtain ⟨ad', A8', c8', e', ux0, _, _, _, _, hr'⟩ := at_T39 HR.out (q : Int) (by omega) (by omega)
        rw [et] at ux0 hr'
        cases e'
        have e0 := (HB.out.cell (World.block_lt_of_cell? w _ ux0)).trans ux0
        rw [tx0] at e0
        injection e0 with e0
        injection e0 with e1 e2 e3
        subst e1
        exact ⟨hr'⟩
      have EW : wrap64 ((q : Int) + 1) = ((q + 1 : Nat) : Int) := by have := HL.out; unfold wrap64; omega
      clear hr8 hl8 et HS
      generalize l0[q] = t at *
      rw [Int.toNat_natCast] at tx0 tx1 tx2 tx3
      by_cases hl9 : t.f0.length ≤ 1000000
      case neg => rw [if_neg hl9] at hs; cases hs
      rw [if_pos hl9] at hs
      obtain ⟨o1, h1, hs⟩ := Option.bind_eq_some_iff.1 hs
      obtain ⟨o2, h2, hs⟩ := Option.bind_eq_some_iff.1 hs
      obtain ⟨o3, h3, hs⟩ := Option.bind_eq_some_iff.1 hs
      obtain ⟨o4, h4, hs⟩ := Option.bind_eq_some_iff.1 hs
      obtain ⟨o5, h5, hs⟩ := Option.bind_eq_some_iff.1 hs
      have T1 := Aside0.mk h1
      have T2 := Aside0.mk h2
      have T3 := Aside0.mk h3
      have T4 := Aside0.mk h4
      have T5 := Aside0.mk h5
      have HS := Aside0.mk hs
      have HL9 := Aside0.mk hl9
      clear h1 h2 h3 h4 h5 hs hl9
      go_upto_region 10 with fail
      have X9 := Aside0.mk (blk_new wr (.cells #[.slice A8 t.f0.length c8, .int .i64 t.f1, .int .i64 t.f2, .int .i64 t.f3] 39 (0, 0)))
      have X1 := Aside0.mk (blk_alloc B1.out (.cells #[.slice A8 t.f0.length c8, .int .i64 t.f1, .int .i64 t.f2, .int .i64 t.f3] 39 (0, 0)))
      have X5 := Aside0.mk (blk_alloc B5.out (.cells #[.slice A8 t.f0.length c8, .int .i64 t.f1, .int .i64 t.f2, .int .i64 t.f3] 39 (0, 0)))
      have XB := Aside0.mk (below_alloc HB.out (.cells #[.slice A8 t.f0.length c8, .int .i64 t.f1, .int .i64 t.f2, .int .i64 t.f3] 39 (0, 0)))
      have N95 := Aside0.mk (show wr.heap.size ≠ g5 from Nat.ne_of_gt (blk_lt B5.out))
      clear B1 B5 HB tx0 tx1 tx2 tx3
      have B1 := X1
      have B5 := X5
      have B9 := X9
      have HB := XB
      clear X1 X5 X9 XB
      generalize wr.alloc (.cells #[.slice A8 t.f0.length c8, .int .i64 t.f1, .int .i64 t.f2, .int .i64 t.f3] 39 (0, 0)) = w6 at *
      generalize wr.heap.size = g9 at *
      have d0 : w6.cell? ⟨g9, 0, none⟩ = some (.slice A8 t.f0.length c8) := (blk_cell B9.out 0).trans rfl; have d1 : w6.cell? ⟨g9, 1, none⟩ = some (.int .i64 t.f1) := (blk_cell B9.out 1).trans rfl; have d2 : w6.cell? ⟨g9, 2, none⟩ = some (.int .i64 t.f2) := (blk_cell B9.out 2).trans rfl; have d3 : w6.cell? ⟨g9, 3, none⟩ = some (.int .i64 t.f3) := (blk_cell B9.out 3).trans rfl
      go_upto_region 11 with (go_at_call 32; refine (add_calls k g5 ob (t.f0.length : Int) 1 o1 T1.out _ (by (with_reducible repeat (first | refine blk_drewN ?_ _ | refine blk_drew ?_ | refine blk_alloc ?_ _)); exact B5.out) w (by repeat (first | (with_reducible first | exact HB.out | apply below_alloc | apply pw_below_drewN | apply below_drew1) | exact HB.out)) G5.out).mono ?_; rintro e w7 ⟨rfl, hb4, hk, hb⟩; have X5 := Aside0.mk hb4; have X1 := Aside0.mk (KeepBut.blk (o := .cells #[.string nm, .slice (some ad) l0.length c0] 24 (0, 0)) hk (by (with_reducible repeat (first | refine blk_drewN ?_ _ | refine blk_drew ?_ | refine blk_alloc ?_ _)); exact B1.out) N15.out (by simp)); have X9 := Aside0.mk (KeepBut.blk (o := .cells #[.slice A8 t.f0.length c8, .int .i64 t.f1, .int .i64 t.f2, .int .i64 t.f3] 39 (0, 0)) hk (by (with_reducible repeat (first | refine blk_drewN ?_ _ | refine blk_drew ?_ | refine blk_alloc ?_ _)); exact B9.out) N95.out (by simp)); have XB := Aside0.mk hb; clear B1 B5 HB B9; have B1 := X1; have B5 := X5; have HB := XB; have B9 := X9; clear X9; clear X1 X5 XB hb4 hk hb; have d0 : w7.cell? ⟨g9, 0, none⟩ = some (.slice A8 t.f0.length c8) := (blk_cell B9.out 0).trans rfl; have d1 : w7.cell? ⟨g9, 1, none⟩ = some (.int .i64 t.f1) := (blk_cell B9.out 1).trans rfl; have d2 : w7.cell? ⟨g9, 2, none⟩ = some (.int .i64 t.f2) := (blk_cell B9.out 2).trans rfl; have d3 : w7.cell? ⟨g9, 3, none⟩ = some (.int .i64 t.f3) := (blk_cell B9.out 3).trans rfl)
      go_wp2
      clear d0 d1 d2 d3
      go_loopg [44] t.f0.length (fun kq v44 w' => ∃ (a : Nat) (oc : ByteArray), v44 = .int .i64 a ∧ Aside0 (a + kq = t.f0.length) ∧ Aside0 (putNeeds k (t.f0.drop a) oc = some o2) ∧ Aside0 (w'.heap[g1]? = some (.cells #[.string nm, .slice (some ad) l0.length c0] 24 (0, 0))) ∧ Aside0 (w'.heap[g5]? = some (.cells #[.string oc] 9 (0, 0))) ∧ Aside0 (w'.heap[g9]? = some (.cells #[.slice A8 t.f0.length c8, .int .i64 t.f1, .int .i64 t.f2, .int .i64 t.f3] 39 (0, 0))) ∧ Aside0 (Below w.heap.size w w'))
      case atStart => exact ⟨0, o1, rfl, ⟨by omega⟩, T2, B1, B5, B9, HB⟩
      case round =>
        clear B1 B5 B9 HB T2
        obtain ⟨a, oc, rfl, HQa, HSa, B1, B5, B9, HB⟩ := hrel
        by_cases hla : a < t.f0.length
        · obtain ⟨k3, rfl⟩ : ∃ k3, gk = k3 + 1 := ⟨gk - 1, by have := HQa.out; omega⟩
          have hs := HSa.out
          rw [List.drop_eq_getElem_cons hla, putNeeds] at hs
          obtain ⟨ad8, rfl, hcx⟩ := Kd.at_int (Kd.C_below HR8.out HB.out) (a : Int) (by omega) (by omega)
          rw [Int.toNat_natCast, show rd t.f0 (a : Int) = t.f0[a] by simp [rd, List.getD_eq_getElem?_getD, List.getElem?_eq_getElem hla]] at hcx
          generalize t.f0[a] = x at *
          obtain ⟨od, hd, hs⟩ := Option.bind_eq_some_iff.1 hs
          have TD := Aside0.mk hd
          have HSb := Aside0.mk hs
          have EWa : wrap64 ((a : Int) + 1) = ((a + 1 : Nat) : Int) := by have := HL9.out; unfold wrap64; omega
          clear hd hs HSa
          go_wp2_with (go_at_call 32; refine (add_calls k g5 oc x 1 od TD.out _ (by (with_reducible repeat (first | refine blk_drewN ?_ _ | refine blk_drew ?_ | refine blk_alloc ?_ _)); exact B5.out) w (by repeat (first | (with_reducible first | exact HB.out | apply below_alloc | apply pw_below_drewN | apply below_drew1) | exact HB.out)) G5.out).mono ?_; rintro e w8 ⟨rfl, hb4, hk, hb⟩; have X5 := Aside0.mk hb4; have X1 := Aside0.mk (KeepBut.blk (o := .cells #[.string nm, .slice (some ad) l0.length c0] 24 (0, 0)) hk (by (with_reducible repeat (first | refine blk_drewN ?_ _ | refine blk_drew ?_ | refine blk_alloc ?_ _)); exact B1.out) N15.out (by simp)); have X9 := Aside0.mk (KeepBut.blk (o := .cells #[.slice (some ad8) t.f0.length c8, .int .i64 t.f1, .int .i64 t.f2, .int .i64 t.f3] 39 (0, 0)) hk (by (with_reducible repeat (first | refine blk_drewN ?_ _ | refine blk_drew ?_ | refine blk_alloc ?_ _)); exact B9.out) N95.out (by simp)); have XB := Aside0.mk hb; clear B1 B5 HB B9; have B1 := X1; have B5 := X5; have HB := XB; have B9 := X9; clear X9; clear X1 X5 XB hb4 hk hb)
          go_roundg k3
          case rel => exact ⟨a + 1, od, by rw [EWa], ⟨by have := HQa.out; omega⟩, HSb, B1, B5, B9, HB⟩
          case measure => omega
        · obtain rfl : a = t.f0.length := by have := HQa.out; omega
          have hs := HSa.out
          rw [List.drop_eq_nil_of_le (Nat.le_refl _), putNeeds] at hs
          obtain rfl := Option.some.inj hs
          clear hs HSa
          have d0 : wr.cell? ⟨g9, 0, none⟩ = some (.slice A8 t.f0.length c8) := (blk_cell B9.out 0).trans rfl; have d1 : wr.cell? ⟨g9, 1, none⟩ = some (.int .i64 t.f1) := (blk_cell B9.out 1).trans rfl; have d2 : wr.cell? ⟨g9, 2, none⟩ = some (.int .i64 t.f2) := (blk_cell B9.out 2).trans rfl; have d3 : wr.cell? ⟨g9, 3, none⟩ = some (.int .i64 t.f3) := (blk_cell B9.out 3).trans rfl
          go_upto_region 17 with (go_at_call 32; refine (add_calls k g5 oc t.f1 1 o3 T3.out _ (by (with_reducible repeat (first | refine blk_drewN ?_ _ | refine blk_drew ?_ | refine blk_alloc ?_ _)); exact B5.out) w (by repeat (first | (with_reducible first | exact HB.out | apply below_alloc | apply pw_below_drewN | apply below_drew1) | exact HB.out)) G5.out).mono ?_; rintro e w9 ⟨rfl, hb4, hk, hb⟩; have X5 := Aside0.mk hb4; have X1 := Aside0.mk (KeepBut.blk (o := .cells #[.string nm, .slice (some ad) l0.length c0] 24 (0, 0)) hk (by (with_reducible repeat (first | refine blk_drewN ?_ _ | refine blk_drew ?_ | refine blk_alloc ?_ _)); exact B1.out) N15.out (by simp)); have X9 := Aside0.mk (KeepBut.blk (o := .cells #[.slice A8 t.f0.length c8, .int .i64 t.f1, .int .i64 t.f2, .int .i64 t.f3] 39 (0, 0)) hk (by (with_reducible repeat (first | refine blk_drewN ?_ _ | refine blk_drew ?_ | refine blk_alloc ?_ _)); exact B9.out) N95.out (by simp)); have XB := Aside0.mk hb; clear B1 B5 HB B9; have B1 := X1; have B5 := X5; have HB := XB; have B9 := X9; clear X9; clear X1 X5 XB hb4 hk hb; have d0 : w9.cell? ⟨g9, 0, none⟩ = some (.slice A8 t.f0.length c8) := (blk_cell B9.out 0).trans rfl; have d1 : w9.cell? ⟨g9, 1, none⟩ = some (.int .i64 t.f1) := (blk_cell B9.out 1).trans rfl; have d2 : w9.cell? ⟨g9, 2, none⟩ = some (.int .i64 t.f2) := (blk_cell B9.out 2).trans rfl; have d3 : w9.cell? ⟨g9, 3, none⟩ = some (.int .i64 t.f3) := (blk_cell B9.out 3).trans rfl)
          go_upto_region 18 with (go_at_call 32; refine (add_calls k g5 o3 t.f2 3 o4 T4.out _ (by (with_reducible repeat (first | refine blk_drewN ?_ _ | refine blk_drew ?_ | refine blk_alloc ?_ _)); exact B5.out) w (by repeat (first | (with_reducible first | exact HB.out | apply below_alloc | apply pw_below_drewN | apply below_drew1) | exact HB.out)) G5.out).mono ?_; rintro e w10 ⟨rfl, hb4, hk, hb⟩; have X5 := Aside0.mk hb4; have X1 := Aside0.mk (KeepBut.blk (o := .cells #[.string nm, .slice (some ad) l0.length c0] 24 (0, 0)) hk (by (with_reducible repeat (first | refine blk_drewN ?_ _ | refine blk_drew ?_ | refine blk_alloc ?_ _)); exact B1.out) N15.out (by simp)); have X9 := Aside0.mk (KeepBut.blk (o := .cells #[.slice A8 t.f0.length c8, .int .i64 t.f1, .int .i64 t.f2, .int .i64 t.f3] 39 (0, 0)) hk (by (with_reducible repeat (first | refine blk_drewN ?_ _ | refine blk_drew ?_ | refine blk_alloc ?_ _)); exact B9.out) N95.out (by simp)); have XB := Aside0.mk hb; clear B1 B5 HB B9; have B1 := X1; have B5 := X5; have HB := XB; have B9 := X9; clear X9; clear X1 X5 XB hb4 hk hb; have d0 : w10.cell? ⟨g9, 0, none⟩ = some (.slice A8 t.f0.length c8) := (blk_cell B9.out 0).trans rfl; have d1 : w10.cell? ⟨g9, 1, none⟩ = some (.int .i64 t.f1) := (blk_cell B9.out 1).trans rfl; have d2 : w10.cell? ⟨g9, 2, none⟩ = some (.int .i64 t.f2) := (blk_cell B9.out 2).trans rfl; have d3 : w10.cell? ⟨g9, 3, none⟩ = some (.int .i64 t.f3) := (blk_cell B9.out 3).trans rfl)
          go_upto_region 19 with (go_at_call 32; refine (add_calls k g5 o4 t.f3 3 o5 T5.out _ (by (with_reducible repeat (first | refine blk_drewN ?_ _ | refine blk_drew ?_ | refine blk_alloc ?_ _)); exact B5.out) w (by repeat (first | (with_reducible first | exact HB.out | apply below_alloc | apply pw_below_drewN | apply below_drew1) | exact HB.out)) G5.out).mono ?_; rintro e w11 ⟨rfl, hb4, hk, hb⟩; have X5 := Aside0.mk hb4; have X1 := Aside0.mk (KeepBut.blk (o := .cells #[.string nm, .slice (some ad) l0.length c0] 24 (0, 0)) hk (by (with_reducible repeat (first | refine blk_drewN ?_ _ | refine blk_drew ?_ | refine blk_alloc ?_ _)); exact B1.out) N15.out (by simp)); have X9 := Aside0.mk (KeepBut.blk (o := .cells #[.slice A8 t.f0.length c8, .int .i64 t.f1, .int .i64 t.f2, .int .i64 t.f3] 39 (0, 0)) hk (by (with_reducible repeat (first | refine blk_drewN ?_ _ | refine blk_drew ?_ | refine blk_alloc ?_ _)); exact B9.out) N95.out (by simp)); have XB := Aside0.mk hb; clear B1 B5 HB B9; have B1 := X1; have B5 := X5; have HB := XB; have B9 := X9; clear X9; clear X1 X5 XB hb4 hk hb)
          go_wp2
          go_roundg k2
          case rel => exact ⟨q + 1, o5, by rw [EW], ⟨by have := HQ.out; omega⟩, HS, B1, B5, HB⟩
          case measure => omega
    · obtain rfl : q = l0.length := by have := HQ.out; omega
      have hs := HS.out
      rw [List.drop_eq_nil_of_le (Nat.le_refl _), putTasks] at hs
      obtain rfl := Option.some.inj hs
      clear hs HS
      have b5 : wr.cell? ⟨g5, 0, none⟩ = some (.string ob) := (blk_cell B5.out 0).trans rfl
      go_wp2
      go_ret2
      exact ⟨rfl, HB.out⟩
end Go.Proofs.Ytbgmhcefjggpgaa
