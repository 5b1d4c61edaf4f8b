/- A text behind what is written so far (the function inside node.Put): what the machine's call comes to. -/
import Derived.Test.YtmnkabdaapiikaaPx13
namespace Go.Proofs.Ytmnkabdaapiikaa
open Go.RowKit Go.Proofs.YtmnkabdaapiikaaW.PrintWords Go.Proofs.YtmnkabdaapiikaaW.PrintLast Go.Proofs.YtmnkabdaapiikaaW.PrintMore
set_option linter.unusedVariables false

def textF (k : Nat) (out s : ByteArray) : Option ByteArray := (P.code_Text.f k s).bind fun t => code_All.f [out, t.1]
set_option maxHeartbeats 1000000 in
theorem text_calls (k g : Nat) (out s o : ByteArray) (h : textF k out s = some o) (w : World) (hg : w.heap[g]? = some (.cells #[.string out] 9 (0, 0))) (w0 : World) (h0 : Below w0.heap.size w0 w) (hg0 : w0.heap.size ≤ g) :
    Calls Try.prog 29 #[.string s, .pointer (some ⟨g, 0, none⟩)] w fun e w' => e = .returned (.tuple #[]) ∧ w'.heap[g]? = some (.cells #[.string o] 9 (0, 0)) ∧ KeepBut w w' g none ∧ Below w0.heap.size w0 w' := by
  obtain ⟨⟨t, e_⟩, h1, h2⟩ := Option.bind_eq_some_iff.1 h
  simp only at h2
  have H1 := Aside0.mk h1
  have H2 := Aside0.mk h2
  have BG := Aside0.mk hg
  have H0 := Aside0.mk h0
  have G0 := Aside0.mk hg0
  have HB := Aside0.mk (Below.refl w.heap.size w)
  clear h h1 h2 hg h0 hg0
  go_enter Try.func29, Try.ntmps29
  go_wp2_with (first | (go_at_call 30; refine (P.code_Text.calls k s _ _ _ H1.out).mono ?_; rintro e w1 ⟨rfl, hb⟩; have B1 := Aside0.mk (blk_below BG.out hb); have c1 : w1.cell? ⟨g, 0, none⟩ = some (.string out) := (blk_cell B1.out 0).trans rfl; have f1 := blk_frozen B1.out 0; have HB1 := Aside0.mk hb; clear hb; clear HB; have HB := HB1; clear HB1) | ((with_reducible refine gate_dst (N := 12) rfl ?_); refine Kd.R_lit Kd.string _ 9 ?hg (N := 12) ?hd (xs := ([out, t] : List ByteArray)) (inner := [.string out, .string t]) (ok := fun _ => True) (okp := fun _ => True) ?hr ?hp (fun _ hk => hk) trivial (Below.refl _ _) (Nat.le_refl _) (by simp) ?_; (case hd => rfl); (case hg => rfl); (case hr => first | (go_simp; done) | (go_simp; rfl)); (case hp => exact (Reps.one (show Kd.M Kd.string _ _ _ out [.string out] from rfl) (Reps.one (show Kd.M Kd.string _ _ _ t [.string t] from rfl) (Reps.none _ _)))); intro v182 w6 ho7 hb hg_ hnew_; clear hg_ hnew_; have B2 := Aside0.mk (blk_below (o := .cells #[.string out] 9 (0, 0)) (by (with_reducible repeat (first | refine blk_drewN ?_ _ | refine blk_drew ?_ | refine blk_alloc ?_ _)); exact B1.out) hb); have HB2 := Aside0.mk (below_step (by repeat (first | (with_reducible first | exact HB.out | apply below_alloc | apply pw_below_drewN | apply below_drew1) | exact HB.out)) hb); have HO := Aside0.mk ho7; clear hb ho7 HB; have HB := HB2; clear HB2; obtain ⟨Ao8, co8, eo8⟩ := Kd.R_slice HO.out; subst eo8) | (go_at_call 31; refine (code_All.calls _ _ [out, t] o _ (by repeat (first | exact (Kd.R_reads' HO.out).2.2 | (with_reducible refine Kd.C_alloc ?_ _) | (with_reducible refine Kd.C_drewN ?_ _) | (with_reducible refine Kd.C_drew ?_))) (Kd.R_reads' HO.out).2.1 H2.out).mono ?_; rintro e w7 ⟨rfl, hb⟩; have B3 := Aside0.mk (blk_below (o := .cells #[.string out] 9 (0, 0)) (by (with_reducible repeat (first | refine blk_drewN ?_ _ | refine blk_drew ?_ | refine blk_alloc ?_ _)); exact B2.out) hb); have c3 : w7.cell? ⟨g, 0, none⟩ = some (.string out) := (blk_cell B3.out 0).trans rfl; have f3 := blk_frozen B3.out 0; have HB3 := Aside0.mk (below_step (by repeat (first | (with_reducible first | exact HB.out | apply below_alloc | apply pw_below_drewN | apply below_drew1) | exact HB.out)) hb); clear hb; clear HB; have HB := HB3; clear HB3))
  go_end0
  refine ⟨rfl, ?_, ?_, ?_⟩
  · (with_reducible repeat (first | refine blk_drewN ?_ _ | refine blk_drew ?_ | refine blk_alloc ?_ _))
    refine blk_put (cs := #[.string out]) ?_ 0 _ rfl
    (with_reducible repeat (first | refine blk_drewN ?_ _ | refine blk_drew ?_ | refine blk_alloc ?_ _))
    exact B3.out
  · (with_reducible repeat (first | refine keep_drewN ?_ _ | refine keep_alloc ?_ _))
    refine KeepBut.set_ ?_ 0 _
    refine KeepBut.of_below ?_ _ _
    repeat (first | (with_reducible first | exact HB.out | apply below_alloc | apply pw_below_drewN | apply below_drew1) | exact HB.out)
  · (with_reducible repeat (first | apply pw_below_drewN | apply below_drew1 | apply below_alloc))
    refine below_set ?_ G0.out
    refine below_step H0.out ?_
    repeat (first | (with_reducible first | exact HB.out | apply below_alloc | apply pw_below_drewN | apply below_drew1) | exact HB.out)
end Go.Proofs.Ytmnkabdaapiikaa
