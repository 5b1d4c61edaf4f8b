/- A number of a graph's bytes (the function inside dag.Get): what the machine's call comes to. -/
import Derived.Test.YtbgmhcefjggpgaaXGet
import Derived.Test.YtbgmhcefjggpgaaPx3
namespace Go.Proofs.Ytbgmhcefjggpgaa
open Go.RowKit Go.Proofs.YtbgmhcefjggpgaaW.PrintWords Go.Proofs.YtbgmhcefjggpgaaW.PrintLast Go.Proofs.YtbgmhcefjggpgaaW.PrintMore
set_option linter.unusedVariables false

def numberF (s : ByteArray) (at_ bad sz : Int) : Option (Int × Int × Int) := if bad = 0 then code_Get.f s at_ sz else some (0, at_, bad)
set_option maxHeartbeats 2000000 in
theorem next_calls (gb gs ga : Nat) (s : ByteArray) (at_ bad sz : Int) (r at' bad' : Int) (h : numberF s at_ bad sz = some (r, at', bad')) (w : World) (hgb : w.heap[gb]? = some (.cells #[.int .i64 bad] 27 (0, 0))) (hgs : w.heap[gs]? = some (.cells #[.string s] 9 (0, 0))) (hga : w.heap[ga]? = some (.cells #[.int .i64 at_] 3 (0, 0))) (w0 : World) (h0 : Below w0.heap.size w0 w) (hb0 : w0.heap.size ≤ gb) (ha0 : w0.heap.size ≤ ga) :
    Calls Try.prog 36 #[.int .i64 sz, .pointer (some ⟨gb, 0, none⟩), .pointer (some ⟨gs, 0, none⟩), .pointer (some ⟨ga, 0, none⟩)] w fun e w' => e = .returned (.int .i64 r) ∧ w'.heap[gb]? = some (.cells #[.int .i64 bad'] 27 (0, 0)) ∧ w'.heap[ga]? = some (.cells #[.int .i64 at'] 3 (0, 0)) ∧ w.heap.size ≤ w'.heap.size ∧ (∀ k, k < w.heap.size → k ≠ gb → k ≠ ga → w'.heap[k]? = w.heap[k]?) ∧ Below w0.heap.size w0 w' := by
  have BB := Aside0.mk hgb
  have BS := Aside0.mk hgs
  have BA := Aside0.mk hga
  have H0 := Aside0.mk h0
  have GB := Aside0.mk hb0
  have GA := Aside0.mk ha0
  have HB := Aside0.mk (Below.refl w.heap.size w)
  have nab : ga ≠ gb := blk_ne hga hgb (by decide)
  have nba : gb ≠ ga := nab.symm
  unfold numberF at h
  clear hgb hgs hga h0 hb0 ha0
  have xb : w.cell? ⟨gb, 0, none⟩ = some (.int .i64 bad) := (blk_cell BB.out 0).trans rfl; have xs : w.cell? ⟨gs, 0, none⟩ = some (.string s) := (blk_cell BS.out 0).trans rfl; have xa : w.cell? ⟨ga, 0, none⟩ = some (.int .i64 at_) := (blk_cell BA.out 0).trans rfl; have yb := blk_frozen BB.out 0; have ya := blk_frozen BA.out 0
  go_enter Try.func36, Try.ntmps36
  by_cases c : bad = 0
  · subst c
    rw [if_pos rfl] at h
    have H1 := Aside0.mk h
    clear h
    go_wp2_with (go_at_call 37; refine (code_Get.calls s at_ sz r at' bad' _ H1.out).mono ?_; rintro e w1 ⟨rfl, hb⟩; have X1 := Aside0.mk (blk_below (o := .cells #[.int .i64 0] 27 (0, 0)) (by (with_reducible repeat (first | refine blk_drewN ?_ _ | refine blk_drew ?_ | refine blk_alloc ?_ _)); exact BB.out) hb); have X2 := Aside0.mk (blk_below (o := .cells #[.string s] 9 (0, 0)) (by (with_reducible repeat (first | refine blk_drewN ?_ _ | refine blk_drew ?_ | refine blk_alloc ?_ _)); exact BS.out) hb); have X3 := Aside0.mk (blk_below (o := .cells #[.int .i64 at_] 3 (0, 0)) (by (with_reducible repeat (first | refine blk_drewN ?_ _ | refine blk_drew ?_ | refine blk_alloc ?_ _)); exact BA.out) hb); have XB := Aside0.mk (below_step (by repeat (first | (with_reducible first | exact HB.out | apply below_alloc | apply pw_below_drewN | apply below_drew1) | exact HB.out)) hb); clear hb BB BS BA HB; have BB := X1; have BS := X2; have BA := X3; have HB := XB; clear X1 X2 X3 XB; have xb : w1.cell? ⟨gb, 0, none⟩ = some (.int .i64 0) := (blk_cell BB.out 0).trans rfl; have xs : w1.cell? ⟨gs, 0, none⟩ = some (.string s) := (blk_cell BS.out 0).trans rfl; have xa : w1.cell? ⟨ga, 0, none⟩ = some (.int .i64 at_) := (blk_cell BA.out 0).trans rfl; have yb := blk_frozen BB.out 0; have ya := blk_frozen BA.out 0)
    go_ret
    refine ⟨rfl, ?_, ?_, ?_, ?_, ?_⟩
    · refine blk_put (cs := #[.int .i64 0]) ?_ 0 _ rfl
      refine blk_far ?_ nba _
      exact BB.out
    · refine blk_far ?_ nab _
      refine blk_put (cs := #[.int .i64 at_]) ?_ 0 _ rfl
      exact BA.out
    · have := HB.out.size
      simpa [World.setCell] using this
    · intro k hk h1 h2
      rw [Below.heap_setCell _ _ _ k (by simpa using h1), Below.heap_setCell _ _ _ k (by simpa using h2)]
      exact HB.out.block k hk
    · refine below_set ?_ GB.out
      refine below_set ?_ GA.out
      exact below_step H0.out HB.out
  · rw [if_neg c] at h
    simp only [Option.some.injEq, Prod.mk.injEq] at h
    obtain ⟨rfl, rfl, rfl⟩ := h
    have cb : (bad != 0) = true := bne_iff_ne.mpr c
    go_wp2
    go_ret
    exact ⟨rfl, BB.out, BA.out, Nat.le_refl _, fun _ _ _ _ => rfl, H0.out⟩
end Go.Proofs.Ytbgmhcefjggpgaa
