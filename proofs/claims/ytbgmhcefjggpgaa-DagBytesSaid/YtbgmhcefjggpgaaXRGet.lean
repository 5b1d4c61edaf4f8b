/- A graph out of bytes, as the reference reads it (peneloperef16.Get): what the machine's call comes to, as a plain function. -/
import Derived.Test.YtbgmhcefjggpgaaXx27
import Derived.Test.YtbgmhcefjggpgaaXx3
import Derived.Deep.LoopGhost
import Derived.BigRegion
namespace Go.Proofs.Ytbgmhcefjggpgaa
open Go.RowKit Go.Proofs.YtbgmhcefjggpgaaW.PrintWords Go.Proofs.YtbgmhcefjggpgaaW.PrintLast Go.Proofs.YtbgmhcefjggpgaaW.PrintMore
open X (S39 k39 IsS68)
set_option linter.unusedVariables false
set_option linter.unusedSimpArgs false

def peneloperef16_Get.f (k : Nat) (s : ByteArray) : Option (ByteArray × List S39 × Int) :=
  (X.peneloperef16_R_Read.f k s 0 0).bind fun b => if b.2.2.2.2 = 0 then (if b.2.2.2.1 = s.size then (X.peneloperef16_Right.f k b.1 b.2.1).bind fun r => if r = 0 then some (b.1, b.2.1, 0) else some (⟨#[]⟩, [], r) else some (⟨#[]⟩, [], 4)) else some (⟨#[]⟩, [], b.2.2.2.2)
theorem peneloperef16_Get.mono : ∀ s k, LeO (peneloperef16_Get.f k s) (peneloperef16_Get.f (k + 1) s) := by
  intro s k
  unfold peneloperef16_Get.f
  exact LeO.bind (X.peneloperef16_R_Read.mono _ _ _ _) fun _ => LeO.ite (LeO.ite (LeO.bind (X.peneloperef16_Right.mono _ _ _) fun _ => LeO.refl _) (LeO.refl _)) (LeO.refl _)
set_option maxHeartbeats 8000000 in
set_option maxRecDepth 100000 in
theorem peneloperef16_Get.calls (k : Nat) (s : ByteArray) (r1 : ByteArray) (r2 : List S39) (r3 : Int) (w : World) (h : peneloperef16_Get.f k s = some (r1, r2, r3)) :
    Calls Try.prog 19 #[.string s] w fun e w' => ∃ v1_ : Value, e = .returned (.tuple #[.agg #[.string r1, v1_], .int .i64 r3]) ∧ Kd.S k39 39 w' w.heap.size (fun _ => True) v1_ r2 ∧ Below w.heap.size w w' := by
  have hu24 := Try.underlying24
  have hu39 := Try.underlying39
  have hu68 := Try.underlying68
  have HB := Aside0.mk (Below.refl w.heap.size w)
  unfold peneloperef16_Get.f at h
  obtain ⟨⟨nm, T, s1, p1, e1⟩, h1, h⟩ := Option.bind_eq_some_iff.1 h
  simp only at h1 h
  have H1 := Aside0.mk h1
  have H4 := Aside0.mk h
  clear h1 h
  go_enter Try.func19, Try.ntmps19
  go_upto_region 3 with (first | ((with_reducible refine gate_dst (N := 2) rfl ?_); refine box_event ?hg (N := 2) ?hd (cs := #[.string (⟨#[]⟩ : ByteArray), .slice none 0 0]) (t := 24) ?hr ?_; (case hd => rfl); (case hg => rfl); (case hr => first | (go_simp; done) | (go_simp; rfl)); intro g2 hg w1 hbox hb; have NB := Aside0.mk (below_step (by repeat (first | (with_reducible first | exact HB.out | apply below_alloc | apply pw_below_drewN | apply below_drew1) | exact HB.out)) hb); have G2 := Aside0.mk (show w.heap.size ≤ g2 by rw [hg]; exact below_size (by repeat (first | (with_reducible first | exact HB.out | apply below_alloc | apply pw_below_drewN | apply below_drew1) | exact HB.out))); clear HB; have HB := NB; have B2 := Aside0.mk hbox; clear NB hb hbox hg) | ((with_reducible refine gate_dst (N := 9) rfl ?_); refine box_event ?hg (N := 9) ?hd (cs := #[.string s, .int .i64 0, .int .i64 0]) (t := 68) ?hr ?_; (case hd => rfl); (case hg => rfl); (case hr => first | (go_simp; done) | (go_simp; rfl)); intro gR hg w2 hbox hb; have NB := Aside0.mk (below_step (by repeat (first | (with_reducible first | exact HB.out | apply below_alloc | apply pw_below_drewN | apply below_drew1) | exact HB.out)) hb); have GR := Aside0.mk (show w.heap.size ≤ gR by rw [hg]; exact below_size (by repeat (first | (with_reducible first | exact HB.out | apply below_alloc | apply pw_below_drewN | apply below_drew1) | exact HB.out))); have XB2 := Aside0.mk (blk_below (o := .cells #[.string (⟨#[]⟩ : ByteArray), .slice none 0 0] 24 (0, 0)) (by (with_reducible repeat (first | refine blk_drewN ?_ _ | refine blk_drew ?_ | refine blk_alloc ?_ _)); exact B2.out) hb); have N2R := Aside0.mk (show g2 ≠ gR by rw [hg]; exact Nat.ne_of_lt (blk_lt (o := .cells #[.string (⟨#[]⟩ : ByteArray), .slice none 0 0] 24 (0, 0)) (by (with_reducible repeat (first | refine blk_drewN ?_ _ | refine blk_drew ?_ | refine blk_alloc ?_ _)); exact B2.out))); clear HB; have HB := NB; clear B2; have B2 := XB2; clear XB2; have BR := Aside0.mk hbox; clear NB hb hbox hg) | (go_at_call 38; refine (X.peneloperef16_R_Read.calls k gR s 0 0 nm T s1 p1 e1 w _ ⟨(by (with_reducible repeat (first | refine blk_drewN ?_ _ | refine blk_drew ?_ | refine blk_alloc ?_ _)); exact BR.out), GR.out⟩ (by repeat (first | (with_reducible first | exact HB.out | apply below_alloc | apply pw_below_drewN | apply below_drew1) | exact HB.out)) H1.out).mono ?_; rintro e w3 ⟨v1, rfl, ho0, hI, hb, hk⟩; have X2 := Aside0.mk (KeepBut.blk (o := .cells #[.string (⟨#[]⟩ : ByteArray), .slice none 0 0] 24 (0, 0)) hk (by (with_reducible repeat (first | refine blk_drewN ?_ _ | refine blk_drew ?_ | refine blk_alloc ?_ _)); exact B2.out) N2R.out (by simp)); have XR := Aside0.mk hI.1; have HT := Aside0.mk (Kd.S_lower ho0 (below_size (by repeat (first | (with_reducible first | exact HB.out | apply below_alloc | apply pw_below_drewN | apply below_drew1) | exact HB.out)))); have XB := Aside0.mk hb; clear ho0 hI hb hk; clear B2 BR HB; have B2 := X2; have BR := XR; have HB := XB; clear X2 XR XB; obtain ⟨AT, cT, eT⟩ := Kd.S_slice HT.out; subst eT) | ((with_reducible refine gate_dst (N := 5) rfl ?_); refine box_event ?hg (N := 5) ?hd (cs := #[.string (⟨#[]⟩ : ByteArray), .slice none 0 0]) (t := 24) ?hr ?_; (case hd => rfl); (case hg => rfl); (case hr => first | (go_simp; done) | (go_simp; rfl)); intro g5 hg w4 hbox hb; have NB := Aside0.mk (below_step (by repeat (first | (with_reducible first | exact HB.out | apply below_alloc | apply pw_below_drewN | apply below_drew1) | exact HB.out)) hb); have G5 := Aside0.mk (show w.heap.size ≤ g5 by rw [hg]; exact below_size (by repeat (first | (with_reducible first | exact HB.out | apply below_alloc | apply pw_below_drewN | apply below_drew1) | exact HB.out))); have XB2 := Aside0.mk (blk_below (o := .cells #[.string (⟨#[]⟩ : ByteArray), .slice none 0 0] 24 (0, 0)) (by (with_reducible repeat (first | refine blk_drewN ?_ _ | refine blk_drew ?_ | refine blk_alloc ?_ _)); exact B2.out) hb); have N25 := Aside0.mk (show g2 ≠ g5 by rw [hg]; exact Nat.ne_of_lt (blk_lt (o := .cells #[.string (⟨#[]⟩ : ByteArray), .slice none 0 0] 24 (0, 0)) (by (with_reducible repeat (first | refine blk_drewN ?_ _ | refine blk_drew ?_ | refine blk_alloc ?_ _)); exact B2.out))); have XBR := Aside0.mk (blk_below (o := .cells #[.string s1, .int .i64 p1, .int .i64 e1] 68 (0, 0)) (by (with_reducible repeat (first | refine blk_drewN ?_ _ | refine blk_drew ?_ | refine blk_alloc ?_ _)); exact BR.out) hb); have NR5 := Aside0.mk (show gR ≠ g5 by rw [hg]; exact Nat.ne_of_lt (blk_lt (o := .cells #[.string s1, .int .i64 p1, .int .i64 e1] 68 (0, 0)) (by (with_reducible repeat (first | refine blk_drewN ?_ _ | refine blk_drew ?_ | refine blk_alloc ?_ _)); exact BR.out))); clear HB; have HB := NB; clear B2; have B2 := XB2; clear XB2; clear BR; have BR := XBR; clear XBR; have B5 := Aside0.mk hbox; have XT := Aside0.mk (show Kd.S k39 39 w4 w.heap.size (fun _ => True) (.slice AT T.length cT) T from Kd.S_below (by (with_reducible repeat (first | apply Kd.S_alloc | apply Kd.S_drewN | apply Kd.S_drew)); exact HT.out) hb); clear HT; have HT := XT; clear XT; clear NB hb hbox hg; have x50 : w4.cell? ⟨g5, 0, none⟩ = some (.string (⟨#[]⟩ : ByteArray)) := (blk_cell B5.out 0).trans rfl; have x51 : w4.cell? ⟨g5, 1, none⟩ = some (.slice none 0 0) := (blk_cell B5.out 1).trans rfl; have y50 := blk_frozen B5.out 0; have y51 := blk_frozen B5.out 1))
  have X5 := Aside0.mk (show ((w4.setCell ⟨g5, 0, none⟩ (.string nm)).setCell ⟨g5, 1, none⟩ (.slice AT T.length cT)).heap[g5]? = some (.cells #[.string nm, .slice AT T.length cT] 24 (0, 0)) from blk_put (cs := #[.string nm, .slice none 0 0]) (blk_put (cs := #[.string (⟨#[]⟩ : ByteArray), .slice none 0 0]) B5.out 0 _ rfl) 1 _ rfl)
  have X2 := Aside0.mk (show ((w4.setCell ⟨g5, 0, none⟩ (.string nm)).setCell ⟨g5, 1, none⟩ (.slice AT T.length cT)).heap[g2]? = some (.cells #[.string (⟨#[]⟩ : ByteArray), .slice none 0 0] 24 (0, 0)) from blk_far (blk_far B2.out N25.out _) N25.out _)
  have XR := Aside0.mk (show ((w4.setCell ⟨g5, 0, none⟩ (.string nm)).setCell ⟨g5, 1, none⟩ (.slice AT T.length cT)).heap[gR]? = some (.cells #[.string s1, .int .i64 p1, .int .i64 e1] 68 (0, 0)) from blk_far (blk_far BR.out NR5.out _) NR5.out _)
  have XT := Aside0.mk (show Kd.S k39 39 ((w4.setCell ⟨g5, 0, none⟩ (.string nm)).setCell ⟨g5, 1, none⟩ (.slice AT T.length cT)) w.heap.size (fun _ => True) (.slice AT T.length cT) T from Kd.S_mono (Kd.S_far (p := ⟨g5, 1, none⟩) (Kd.S_far (p := ⟨g5, 0, none⟩) (Kd.S_types HT.out B5.out (by decide)) (fun _ h_ => h_.2) (.string nm)) (fun _ h_ => h_.2) (.slice AT T.length cT)) (fun _ h_ => h_.1))
  have XB := Aside0.mk (show Below w.heap.size w ((w4.setCell ⟨g5, 0, none⟩ (.string nm)).setCell ⟨g5, 1, none⟩ (.slice AT T.length cT)) from below_set (below_set HB.out G5.out) G5.out)
  clear x50 x51 y50 y51
  clear B5 B2 BR HT HB
  have B5 := X5
  have B2 := X2
  have BR := XR
  have HT := XT
  have HB := XB
  clear X5 X2 XR XT XB
  generalize (w4.setCell ⟨g5, 0, none⟩ (.string nm)).setCell ⟨g5, 1, none⟩ (.slice AT T.length cT) = w5 at *
  have r1 : w5.cell? ⟨gR, 1, none⟩ = some (.int .i64 p1) := (blk_cell BR.out 1).trans rfl
  have r2 : w5.cell? ⟨gR, 2, none⟩ = some (.int .i64 e1) := (blk_cell BR.out 2).trans rfl
  have h4 := H4.out
  clear H4
  by_cases c2 : e1 = 0
  case neg =>
    have e1b : (e1 != 0) = true := bne_iff_ne.mpr c2
    rw [if_neg c2] at h4
    simp only [Option.some.injEq, Prod.mk.injEq] at h4
    obtain ⟨rfl, rfl, rfl⟩ := h4
    have a0 : w5.cell? ⟨g2, 0, none⟩ = some (.string (⟨#[]⟩ : ByteArray)) := (blk_cell B2.out 0).trans rfl
    have a1 : w5.cell? ⟨g2, 1, none⟩ = some (.slice none 0 0) := (blk_cell B2.out 1).trans rfl
    have af0 := blk_frozen B2.out 0
    have af1 := blk_frozen B2.out 1
    have n2R := N2R.out
    have nR2 := N2R.out.symm
    go_wp2_with fail
    go_region
    go_wp2_with fail
    refine bodyPost_ret (results_ct rfl _ _ g2 24 #[.string (⟨#[]⟩ : ByteArray), .slice none 0 0] (0, 0) _ rfl (by (with_reducible repeat (first | refine blk_drewN ?_ _ | refine blk_drew ?_ | refine blk_alloc ?_ _)); refine blk_put (cs := #[.string (⟨#[]⟩ : ByteArray), .slice none 0 0]) ?_ 1 _ rfl; (with_reducible repeat (first | refine blk_drewN ?_ _ | refine blk_drew ?_ | refine blk_alloc ?_ _)); refine blk_put (cs := #[.string (⟨#[]⟩ : ByteArray), .slice none 0 0]) ?_ 0 _ rfl; (with_reducible repeat (first | refine blk_drewN ?_ _ | refine blk_drew ?_ | refine blk_alloc ?_ _)); exact B2.out) Try.underlying24 rfl (by kernel_rfl)) rfl ?_
    exact ⟨_, rfl, Kd.S_nil _ _ _ _ _, (by repeat (first | (with_reducible first | exact HB.out | apply below_alloc | apply pw_below_drewN | apply below_drew1 | refine below_set ?_ G2.out | refine below_set ?_ G5.out) | exact HB.out))⟩
  rw [if_pos c2] at h4
  subst c2
  by_cases e2 : p1 = (s.size : Int)
  case neg =>
    have e2b : (p1 != (s.size : Int)) = true := bne_iff_ne.mpr e2
    rw [if_neg e2] at h4
    simp only [Option.some.injEq, Prod.mk.injEq] at h4
    obtain ⟨rfl, rfl, rfl⟩ := h4
    have a0 : w5.cell? ⟨g2, 0, none⟩ = some (.string (⟨#[]⟩ : ByteArray)) := (blk_cell B2.out 0).trans rfl
    have a1 : w5.cell? ⟨g2, 1, none⟩ = some (.slice none 0 0) := (blk_cell B2.out 1).trans rfl
    have af0 := blk_frozen B2.out 0
    have af1 := blk_frozen B2.out 1
    go_wp2_with fail
    refine bodyPost_ret (results_ct rfl _ _ g2 24 #[.string (⟨#[]⟩ : ByteArray), .slice none 0 0] (0, 0) _ rfl (by (with_reducible repeat (first | refine blk_drewN ?_ _ | refine blk_drew ?_ | refine blk_alloc ?_ _)); refine blk_put (cs := #[.string (⟨#[]⟩ : ByteArray), .slice none 0 0]) ?_ 1 _ rfl; (with_reducible repeat (first | refine blk_drewN ?_ _ | refine blk_drew ?_ | refine blk_alloc ?_ _)); refine blk_put (cs := #[.string (⟨#[]⟩ : ByteArray), .slice none 0 0]) ?_ 0 _ rfl; (with_reducible repeat (first | refine blk_drewN ?_ _ | refine blk_drew ?_ | refine blk_alloc ?_ _)); exact B2.out) Try.underlying24 rfl (by kernel_rfl)) rfl ?_
    exact ⟨_, rfl, Kd.S_nil _ _ _ _ _, (by repeat (first | (with_reducible first | exact HB.out | apply below_alloc | apply pw_below_drewN | apply below_drew1 | refine below_set ?_ G2.out | refine below_set ?_ G5.out) | exact HB.out))⟩
  rw [if_pos e2] at h4
  subst e2
  obtain ⟨rr, hrr, h4⟩ := Option.bind_eq_some_iff.1 h4
  have R1 := Aside0.mk hrr
  clear hrr
  have b50 : w5.cell? ⟨g5, 0, none⟩ = some (.string nm) := (blk_cell B5.out 0).trans rfl
  have b51 : w5.cell? ⟨g5, 1, none⟩ = some (.slice AT T.length cT) := (blk_cell B5.out 1).trans rfl
  by_cases e3 : rr = 0
  case neg =>
    have e3b : (rr != 0) = true := bne_iff_ne.mpr e3
    rw [if_neg e3] at h4
    simp only [Option.some.injEq, Prod.mk.injEq] at h4
    obtain ⟨rfl, rfl, rfl⟩ := h4
    go_wp2_with (go_at_call 9; refine (X.peneloperef16_Right.calls k nm _ _ T rr _ (by repeat (first | exact (Kd.S_reads' HT.out).2.2 | (with_reducible refine Kd.C_alloc ?_ _) | (with_reducible refine Kd.C_drewN ?_ _) | (with_reducible refine Kd.C_drew ?_))) (Kd.S_reads' HT.out).2.1 R1.out).mono ?_; rintro e w8 ⟨rfl, hb⟩; have X2 := Aside0.mk (blk_below (o := .cells #[.string (⟨#[]⟩ : ByteArray), .slice none 0 0] 24 (0, 0)) (by (with_reducible repeat (first | refine blk_drewN ?_ _ | refine blk_drew ?_ | refine blk_alloc ?_ _)); exact B2.out) hb); have X5 := Aside0.mk (blk_below (o := .cells #[.string nm, .slice AT T.length cT] 24 (0, 0)) (by (with_reducible repeat (first | refine blk_drewN ?_ _ | refine blk_drew ?_ | refine blk_alloc ?_ _)); exact B5.out) hb); have XT := Aside0.mk (show Kd.S k39 39 w8 w.heap.size (fun _ => True) (.slice AT T.length cT) T from Kd.S_below (by (with_reducible repeat (first | apply Kd.S_alloc | apply Kd.S_drewN | apply Kd.S_drew)); exact HT.out) hb); have XB := Aside0.mk (below_step (by repeat (first | (with_reducible first | exact HB.out | apply below_alloc | apply pw_below_drewN | apply below_drew1) | exact HB.out)) hb); clear hb; clear B2 B5 HT HB; have B2 := X2; have B5 := X5; have HT := XT; have HB := XB; clear X2 X5 XT XB; have b50 : w8.cell? ⟨g5, 0, none⟩ = some (.string nm) := (blk_cell B5.out 0).trans rfl; have b51 : w8.cell? ⟨g5, 1, none⟩ = some (.slice AT T.length cT) := (blk_cell B5.out 1).trans rfl; have a0 : w8.cell? ⟨g2, 0, none⟩ = some (.string (⟨#[]⟩ : ByteArray)) := (blk_cell B2.out 0).trans rfl; have a1 : w8.cell? ⟨g2, 1, none⟩ = some (.slice none 0 0) := (blk_cell B2.out 1).trans rfl; have af0 := blk_frozen B2.out 0; have af1 := blk_frozen B2.out 1)
    refine bodyPost_ret (results_ct rfl _ _ g2 24 #[.string (⟨#[]⟩ : ByteArray), .slice none 0 0] (0, 0) _ rfl (by (with_reducible repeat (first | refine blk_drewN ?_ _ | refine blk_drew ?_ | refine blk_alloc ?_ _)); refine blk_put (cs := #[.string (⟨#[]⟩ : ByteArray), .slice none 0 0]) ?_ 1 _ rfl; (with_reducible repeat (first | refine blk_drewN ?_ _ | refine blk_drew ?_ | refine blk_alloc ?_ _)); refine blk_put (cs := #[.string (⟨#[]⟩ : ByteArray), .slice none 0 0]) ?_ 0 _ rfl; (with_reducible repeat (first | refine blk_drewN ?_ _ | refine blk_drew ?_ | refine blk_alloc ?_ _)); exact B2.out) Try.underlying24 rfl (by kernel_rfl)) rfl ?_
    exact ⟨_, rfl, Kd.S_nil _ _ _ _ _, (by repeat (first | (with_reducible first | exact HB.out | apply below_alloc | apply pw_below_drewN | apply below_drew1 | refine below_set ?_ G2.out | refine below_set ?_ G5.out) | exact HB.out))⟩
  rw [if_pos e3] at h4
  subst e3
  simp only [Option.some.injEq, Prod.mk.injEq] at h4
  obtain ⟨rfl, rfl, rfl⟩ := h4
  go_wp2_with (go_at_call 9; refine (X.peneloperef16_Right.calls k nm _ _ T 0 _ (by repeat (first | exact (Kd.S_reads' HT.out).2.2 | (with_reducible refine Kd.C_alloc ?_ _) | (with_reducible refine Kd.C_drewN ?_ _) | (with_reducible refine Kd.C_drew ?_))) (Kd.S_reads' HT.out).2.1 R1.out).mono ?_; rintro e w8 ⟨rfl, hb⟩; have X2 := Aside0.mk (blk_below (o := .cells #[.string (⟨#[]⟩ : ByteArray), .slice none 0 0] 24 (0, 0)) (by (with_reducible repeat (first | refine blk_drewN ?_ _ | refine blk_drew ?_ | refine blk_alloc ?_ _)); exact B2.out) hb); have X5 := Aside0.mk (blk_below (o := .cells #[.string nm, .slice AT T.length cT] 24 (0, 0)) (by (with_reducible repeat (first | refine blk_drewN ?_ _ | refine blk_drew ?_ | refine blk_alloc ?_ _)); exact B5.out) hb); have XT := Aside0.mk (show Kd.S k39 39 w8 w.heap.size (fun _ => True) (.slice AT T.length cT) T from Kd.S_below (by (with_reducible repeat (first | apply Kd.S_alloc | apply Kd.S_drewN | apply Kd.S_drew)); exact HT.out) hb); have XB := Aside0.mk (below_step (by repeat (first | (with_reducible first | exact HB.out | apply below_alloc | apply pw_below_drewN | apply below_drew1) | exact HB.out)) hb); clear hb; clear B2 B5 HT HB; have B2 := X2; have B5 := X5; have HT := XT; have HB := XB; clear X2 X5 XT XB; have b50 : w8.cell? ⟨g5, 0, none⟩ = some (.string nm) := (blk_cell B5.out 0).trans rfl; have b51 : w8.cell? ⟨g5, 1, none⟩ = some (.slice AT T.length cT) := (blk_cell B5.out 1).trans rfl; have a0 : w8.cell? ⟨g2, 0, none⟩ = some (.string (⟨#[]⟩ : ByteArray)) := (blk_cell B2.out 0).trans rfl; have a1 : w8.cell? ⟨g2, 1, none⟩ = some (.slice none 0 0) := (blk_cell B2.out 1).trans rfl; have af0 := blk_frozen B2.out 0; have af1 := blk_frozen B2.out 1)
  refine bodyPost_ret (results_ct rfl _ _ g2 24 #[.string nm, .slice AT T.length cT] (0, 0) _ rfl (by (with_reducible repeat (first | refine blk_drewN ?_ _ | refine blk_drew ?_ | refine blk_alloc ?_ _)); refine blk_put (cs := #[.string nm, .slice none 0 0]) ?_ 1 _ rfl; (with_reducible repeat (first | refine blk_drewN ?_ _ | refine blk_drew ?_ | refine blk_alloc ?_ _)); refine blk_put (cs := #[.string (⟨#[]⟩ : ByteArray), .slice none 0 0]) ?_ 0 _ rfl; (with_reducible repeat (first | refine blk_drewN ?_ _ | refine blk_drew ?_ | refine blk_alloc ?_ _)); exact B2.out) Try.underlying24 rfl (by kernel_rfl)) rfl ?_
  exact ⟨_, rfl, (by refine Kd.S_mono (Kd.S_keep (Kd.S_types HT.out B2.out (by decide)) ?_ (fun _ h_ => h_.2)) (fun _ _ => trivial); repeat (first | exact KeepBut.refl _ _ _ | refine KeepBut.set_ ?_ _ _ | refine keep_drewN ?_ _)), (by repeat (first | (with_reducible first | exact HB.out | apply below_alloc | apply pw_below_drewN | apply below_drew1 | refine below_set ?_ G2.out | refine below_set ?_ G5.out) | exact HB.out))⟩
end Go.Proofs.Ytbgmhcefjggpgaa
