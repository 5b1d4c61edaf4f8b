/- A reader's number and text (node's reader): what the machine's calls come to. -/
import Derived.Test.YtmnkabdaapiikaaGx1
import Derived.Deep.RegionWith
namespace Go.Proofs.Ytmnkabdaapiikaa
open Go.RowKit Go.Proofs.YtmnkabdaapiikaaW.PrintWords Go.Proofs.YtmnkabdaapiikaaW.PrintLast Go.Proofs.YtmnkabdaapiikaaW.PrintMore
set_option linter.unusedVariables false

def numberF (s : ByteArray) (at_ bad sz : Int) : Option (Int × Int × Int) := if bad = 0 then code_Get.f s at_ sz else some (0, at_, bad)
def textR (s : ByteArray) (at_ bad : Int) : Option (ByteArray × Int × Int) := if bad = 0 then G.code_Cut.f s at_ else some (⟨#[]⟩, at_, bad)
set_option maxHeartbeats 2000000 in
theorem number_calls (g : Nat) (s : ByteArray) (at_ bad sz : Int) (r : Int) (at' bad' : Int) (h : numberF s at_ bad sz = some (r, at', bad')) (w : World) (hg : w.heap[g]? = some (.cells #[.string s, .int .i64 at_, .int .i64 bad] 62 (0, 0))) (w0 : World) (h0 : Below w0.heap.size w0 w) (hg0 : w0.heap.size ≤ g) :
    Calls Try.prog 39 #[.pointer (some ⟨g, 0, none⟩), .int .i64 sz] w fun e w' => e = .returned (.int .i64 r) ∧ w'.heap[g]? = some (.cells #[.string s, .int .i64 at', .int .i64 bad'] 62 (0, 0)) ∧ KeepBut w w' g none ∧ Below w0.heap.size w0 w' := by
  have hu62 := Try.underlying62
  have BG := Aside0.mk hg
  have H0 := Aside0.mk h0
  have G0 := Aside0.mk hg0
  have HB := Aside0.mk (Below.refl w.heap.size w)
  unfold numberF at h
  clear hg h0 hg0
  have b0 : w.cell? ⟨g, 0, none⟩ = some (.string s) := (blk_cell BG.out 0).trans rfl; have bf0 := blk_frozen BG.out 0; have b1 : w.cell? ⟨g, 1, none⟩ = some (.int .i64 at_) := (blk_cell BG.out 1).trans rfl; have bf1 := blk_frozen BG.out 1; have b2 : w.cell? ⟨g, 2, none⟩ = some (.int .i64 bad) := (blk_cell BG.out 2).trans rfl; have bf2 := blk_frozen BG.out 2
  go_enter Try.func39, Try.ntmps39
  by_cases c : bad = 0
  · subst c
    rw [if_pos rfl] at h
    have H1 := Aside0.mk h
    clear h
    go_upto_region 3 with fail
    go_region_with (go_at_call 54; refine (code_Get.calls s at_ sz r at' bad' _ H1.out).mono ?_; rintro e w1 ⟨rfl, hb⟩; have X1 := Aside0.mk (blk_below (o := .cells #[.string s, .int .i64 at_, .int .i64 0] 62 (0, 0)) (by (with_reducible repeat (first | refine blk_drewN ?_ _ | refine blk_drew ?_ | refine blk_alloc ?_ _)); exact BG.out) hb); clear BG; have BG := X1; clear X1; have NB := Aside0.mk (below_step (by repeat (first | (with_reducible first | exact HB.out | apply below_alloc | apply pw_below_drewN | apply below_drew1) | exact HB.out)) hb); clear HB; have HB := NB; clear NB hb; have b0 : w1.cell? ⟨g, 0, none⟩ = some (.string s) := (blk_cell BG.out 0).trans rfl; have bf0 := blk_frozen BG.out 0; have b1 : w1.cell? ⟨g, 1, none⟩ = some (.int .i64 at_) := (blk_cell BG.out 1).trans rfl; have bf1 := blk_frozen BG.out 1; have b2 : w1.cell? ⟨g, 2, none⟩ = some (.int .i64 0) := (blk_cell BG.out 2).trans rfl; have bf2 := blk_frozen BG.out 2; skip)
    all_goals
      go_wp2
      go_ret
      refine ⟨rfl, ?_, ?_, ?_⟩
      · (with_reducible repeat (first | refine blk_drewN ?_ _ | refine blk_drew ?_ | refine blk_alloc ?_ _))
        refine blk_put (cs := #[.string s, .int .i64 at', .int .i64 0]) ?_ 2 _ rfl
        (with_reducible repeat (first | refine blk_drewN ?_ _ | refine blk_drew ?_ | refine blk_alloc ?_ _))
        refine blk_put (cs := #[.string s, .int .i64 at_, .int .i64 0]) ?_ 1 _ rfl
        (with_reducible repeat (first | refine blk_drewN ?_ _ | refine blk_drew ?_ | refine blk_alloc ?_ _))
        exact BG.out
      · (with_reducible repeat (first | refine keep_drewN ?_ _ | refine keep_alloc ?_ _))
        refine KeepBut.set_ ?_ 2 _
        (with_reducible repeat (first | refine keep_drewN ?_ _ | refine keep_alloc ?_ _))
        refine KeepBut.set_ ?_ 1 _
        refine KeepBut.of_below ?_ _ _
        repeat (first | (with_reducible first | exact HB.out | apply below_alloc | apply pw_below_drewN | apply below_drew1) | exact HB.out)
      · (with_reducible repeat (first | apply pw_below_drewN | apply below_drew1 | apply below_alloc))
        refine below_set ?_ G0.out
        (with_reducible repeat (first | apply pw_below_drewN | apply below_drew1 | apply below_alloc))
        refine below_set ?_ G0.out
        refine below_step H0.out ?_
        repeat (first | (with_reducible first | exact HB.out | apply below_alloc | apply pw_below_drewN | apply below_drew1) | exact HB.out)
  · rw [if_neg c] at h
    simp only [Option.some.injEq, Prod.mk.injEq] at h
    obtain ⟨rfl, rfl, rfl⟩ := h
    have cb : (bad != 0) = true := bne_iff_ne.mpr c
    go_wp2
    go_ret
    exact ⟨rfl, BG.out, KeepBut.refl _ _ _, H0.out⟩
set_option maxHeartbeats 2000000 in
theorem textr_calls (g : Nat) (s : ByteArray) (at_ bad : Int) (r : ByteArray) (at' bad' : Int) (h : textR s at_ bad = some (r, at', bad')) (w : World) (hg : w.heap[g]? = some (.cells #[.string s, .int .i64 at_, .int .i64 bad] 62 (0, 0))) (w0 : World) (h0 : Below w0.heap.size w0 w) (hg0 : w0.heap.size ≤ g) :
    Calls Try.prog 40 #[.pointer (some ⟨g, 0, none⟩)] w fun e w' => e = .returned (.string r) ∧ w'.heap[g]? = some (.cells #[.string s, .int .i64 at', .int .i64 bad'] 62 (0, 0)) ∧ KeepBut w w' g none ∧ Below w0.heap.size w0 w' := by
  have hu62 := Try.underlying62
  have BG := Aside0.mk hg
  have H0 := Aside0.mk h0
  have G0 := Aside0.mk hg0
  have HB := Aside0.mk (Below.refl w.heap.size w)
  unfold textR at h
  clear hg h0 hg0
  have b0 : w.cell? ⟨g, 0, none⟩ = some (.string s) := (blk_cell BG.out 0).trans rfl; have bf0 := blk_frozen BG.out 0; have b1 : w.cell? ⟨g, 1, none⟩ = some (.int .i64 at_) := (blk_cell BG.out 1).trans rfl; have bf1 := blk_frozen BG.out 1; have b2 : w.cell? ⟨g, 2, none⟩ = some (.int .i64 bad) := (blk_cell BG.out 2).trans rfl; have bf2 := blk_frozen BG.out 2
  go_enter Try.func40, Try.ntmps40
  by_cases c : bad = 0
  · subst c
    rw [if_pos rfl] at h
    have H1 := Aside0.mk h
    clear h
    go_upto_region 3 with fail
    go_region_with (go_at_call 55; refine (G.code_Cut.calls s at_ r at' bad' _ H1.out).mono ?_; rintro e w1 ⟨rfl, hb⟩; have X1 := Aside0.mk (blk_below (o := .cells #[.string s, .int .i64 at_, .int .i64 0] 62 (0, 0)) (by (with_reducible repeat (first | refine blk_drewN ?_ _ | refine blk_drew ?_ | refine blk_alloc ?_ _)); exact BG.out) hb); clear BG; have BG := X1; clear X1; have NB := Aside0.mk (below_step (by repeat (first | (with_reducible first | exact HB.out | apply below_alloc | apply pw_below_drewN | apply below_drew1) | exact HB.out)) hb); clear HB; have HB := NB; clear NB hb; have b0 : w1.cell? ⟨g, 0, none⟩ = some (.string s) := (blk_cell BG.out 0).trans rfl; have bf0 := blk_frozen BG.out 0; have b1 : w1.cell? ⟨g, 1, none⟩ = some (.int .i64 at_) := (blk_cell BG.out 1).trans rfl; have bf1 := blk_frozen BG.out 1; have b2 : w1.cell? ⟨g, 2, none⟩ = some (.int .i64 0) := (blk_cell BG.out 2).trans rfl; have bf2 := blk_frozen BG.out 2; skip)
    all_goals
      go_wp2
      go_ret
      refine ⟨rfl, ?_, ?_, ?_⟩
      · (with_reducible repeat (first | refine blk_drewN ?_ _ | refine blk_drew ?_ | refine blk_alloc ?_ _))
        refine blk_put (cs := #[.string s, .int .i64 at', .int .i64 0]) ?_ 2 _ rfl
        (with_reducible repeat (first | refine blk_drewN ?_ _ | refine blk_drew ?_ | refine blk_alloc ?_ _))
        refine blk_put (cs := #[.string s, .int .i64 at_, .int .i64 0]) ?_ 1 _ rfl
        (with_reducible repeat (first | refine blk_drewN ?_ _ | refine blk_drew ?_ | refine blk_alloc ?_ _))
        exact BG.out
      · (with_reducible repeat (first | refine keep_drewN ?_ _ | refine keep_alloc ?_ _))
        refine KeepBut.set_ ?_ 2 _
        (with_reducible repeat (first | refine keep_drewN ?_ _ | refine keep_alloc ?_ _))
        refine KeepBut.set_ ?_ 1 _
        refine KeepBut.of_below ?_ _ _
        repeat (first | (with_reducible first | exact HB.out | apply below_alloc | apply pw_below_drewN | apply below_drew1) | exact HB.out)
      · (with_reducible repeat (first | apply pw_below_drewN | apply below_drew1 | apply below_alloc))
        refine below_set ?_ G0.out
        (with_reducible repeat (first | apply pw_below_drewN | apply below_drew1 | apply below_alloc))
        refine below_set ?_ G0.out
        refine below_step H0.out ?_
        repeat (first | (with_reducible first | exact HB.out | apply below_alloc | apply pw_below_drewN | apply below_drew1) | exact HB.out)
  · rw [if_neg c] at h
    simp only [Option.some.injEq, Prod.mk.injEq] at h
    obtain ⟨rfl, rfl, rfl⟩ := h
    have cb : (bad != 0) = true := bne_iff_ne.mpr c
    go_wp2
    go_ret
    exact ⟨rfl, BG.out, KeepBut.refl _ _ _, H0.out⟩
end Go.Proofs.Ytmnkabdaapiikaa
