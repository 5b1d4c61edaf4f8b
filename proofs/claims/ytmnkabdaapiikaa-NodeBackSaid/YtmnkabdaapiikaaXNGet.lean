/- A node out of bytes (node.Get): what the machine's call comes to, as a plain function. -/
import Derived.Test.YtmnkabdaapiikaaXReader
import Derived.Test.YtmnkabdaapiikaaPx3
import Derived.Deep.LoopGhost
namespace Go.Proofs.Ytmnkabdaapiikaa
open Go.RowKit Go.Proofs.YtmnkabdaapiikaaW.PrintWords Go.Proofs.YtmnkabdaapiikaaW.PrintLast Go.Proofs.YtmnkabdaapiikaaW.PrintMore
set_option linter.unusedVariables false
set_option linter.unusedSimpArgs false

theorem inf3 : (Try.prog.info? 3).map (fun i => (i.zero, i.size, i.bytes)) = some (some (.int .i64 0), 1, 8) := by kernel_rfl
theorem inf9 : (Try.prog.info? 9).map (fun i => (i.zero, i.size, i.bytes)) = some (some (.string ⟨#[]⟩), 1, 16) := by kernel_rfl
/-- The rounds of the reading. -/
def getL (leaf : Bool) (m : Int) (s : ByteArray) : Nat → Int → Int → Int → List ByteArray → List ByteArray → List Int → Option (Int × Int × List ByteArray × List ByteArray × List Int)
  | 0, _, _, _, _, _, _ => none
  | k + 1, i, at_, bad, K, V, C => if i < m then (if bad = 0 then (if K.length < 1000000 ∧ V.length < 1000000 ∧ C.length < 1000000 then (if leaf = true then
      (textR s at_ bad).bind fun t => (textR s t.2.1 t.2.2).bind fun u => getL leaf m s k (wrap64 (i + 1)) u.2.1 u.2.2 (K ++ [t.1]) (V ++ [u.1]) C
      else (numberF s at_ bad 2).bind fun c => (textR s c.2.1 c.2.2).bind fun t => getL leaf m s k (wrap64 (i + 1)) t.2.1 t.2.2 (K ++ [t.1]) V (C ++ [c.1])) else none) else some (at_, bad, K, V, C)) else some (at_, bad, K, V, C)
theorem getL_mono (leaf : Bool) (m : Int) (s : ByteArray) : ∀ k i at_ bad K V C, LeO (getL leaf m s k i at_ bad K V C) (getL leaf m s (k + 1) i at_ bad K V C)
  | 0, _, _, _, _, _, _ => LeO.none _
  | k + 1, i, at_, bad, K, V, C => by
    rw [getL, getL]
    exact LeO.ite (LeO.ite (LeO.ite (LeO.ite (LeO.bind (LeO.refl _) fun _ => LeO.bind (LeO.refl _) fun _ => getL_mono leaf m s k _ _ _ _ _ _) (LeO.bind (LeO.refl _) fun _ => LeO.bind (LeO.refl _) fun _ => getL_mono leaf m s k _ _ _ _ _ _)) (LeO.refl _)) (LeO.refl _)) (LeO.refl _)
/-- What is made of what was read. -/
def endG (k : Nat) (leaf : Bool) (s : ByteArray) (at_ bad : Int) (K V : List ByteArray) (C : List Int) : Option (Bool × List ByteArray × List ByteArray × List Int × Int) :=
  if bad = 0 then (if at_ = s.size then (P.node_Right.f k leaf K V C true).bind fun b => if b = true then some (leaf, K, V, C, 0) else some (false, [], [], [], 4) else some (false, [], [], [], 4)) else some (false, [], [], [], bad)
def node_Get.f (k : Nat) (kind : Int) (s : ByteArray) : Option (Bool × List ByteArray × List ByteArray × List Int × Int) :=
  if kind = 1 then (numberF s 0 0 1).bind fun n => (getL true n.1 s k 0 n.2.1 n.2.2 [] [] []).bind fun g => endG k true s g.1 g.2.1 g.2.2.1 g.2.2.2.1 g.2.2.2.2
  else if kind = 2 then (numberF s 0 0 1).bind fun n => (getL false n.1 s k 0 n.2.1 n.2.2 [] [] []).bind fun g => if g.2.2.2.2.length < 1000000 then (numberF s g.1 g.2.1 2).bind fun c => endG k false s c.2.1 c.2.2 g.2.2.1 g.2.2.2.1 (g.2.2.2.2 ++ [c.1]) else none
  else some (false, [], [], [], 81)
theorem endG_mono (leaf : Bool) (s : ByteArray) (at_ bad : Int) (K V : List ByteArray) (C : List Int) (k : Nat) : LeO (endG k leaf s at_ bad K V C) (endG (k + 1) leaf s at_ bad K V C) :=
  LeO.ite (LeO.ite (LeO.bind (P.node_Right.mono _ _ _ _ _ _) fun _ => LeO.refl _) (LeO.refl _)) (LeO.refl _)
theorem node_Get.mono : ∀ kind s k, LeO (node_Get.f k kind s) (node_Get.f (k + 1) kind s) := by
  intro kind s k
  unfold node_Get.f
  exact LeO.ite (LeO.bind (LeO.refl _) fun _ => LeO.bind (getL_mono _ _ _ _ _ _ _ _ _ _) fun _ => endG_mono _ _ _ _ _ _ _ _) (LeO.ite (LeO.bind (LeO.refl _) fun _ => LeO.bind (getL_mono _ _ _ _ _ _ _ _ _ _) fun _ => LeO.ite (LeO.bind (LeO.refl _) fun _ => endG_mono _ _ _ _ _ _ _ _) (LeO.refl _)) (LeO.refl _))
set_option maxHeartbeats 4000000 in
set_option maxRecDepth 100000 in
theorem get_leaf (k : Nat) (s : ByteArray) (r1 : Bool) (r2 r3 : List ByteArray) (r4 : List Int) (r5 : Int) (w : World) (h : node_Get.f k 1 s = some (r1, r2, r3, r4, r5)) :
    Calls Try.prog 26 #[.int .i64 1, .string s] w fun e w' => ∃ v1_ v2_ v3_ : Value, e = .returned (.tuple #[.agg #[.bool r1, v1_, v2_, v3_], .int .i64 r5]) ∧ Kd.R Kd.string 9 w' w.heap.size (fun k_ => some k_ ≠ (v2_ : Value).ownBlock) v1_ r2 ∧ Kd.R Kd.string 9 w' w.heap.size (fun k_ => some k_ ≠ (v1_ : Value).ownBlock) v2_ r3 ∧ Kd.R (Kd.int .i64) 3 w' w.heap.size (fun _ => True) v3_ r4 ∧ Below w.heap.size w w' := by
  have hu25 := Try.underlying25
  have hu62 := Try.underlying62
  have HB := Aside0.mk (Below.refl w.heap.size w)
  unfold node_Get.f at h
  rw [if_pos rfl] at h
  obtain ⟨⟨m, at1, bad1⟩, h1, h⟩ := Option.bind_eq_some_iff.1 h
  obtain ⟨⟨at2, bad2, K2, V2, C2⟩, h2, h⟩ := Option.bind_eq_some_iff.1 h
  simp only at h1 h2 h
  have H1 := Aside0.mk h1
  have H2 := Aside0.mk h2
  have H3 := Aside0.mk h
  clear h1 h2 h
  go_enter Try.func26, Try.ntmps26
  go_upto_region 5 with (first | ((with_reducible refine gate_dst (N := 4) rfl ?_); refine box_event ?hg (N := 4) ?hd (cs := #[.bool false, .slice none 0 0, .slice none 0 0, .slice none 0 0]) (t := 25) ?hr ?_; (case hd => rfl); (case hg => rfl); (case hr => first | (go_simp; done) | (go_simp; rfl)); intro gA hg w1 hbox hb; have NB := Aside0.mk (below_step (by repeat (first | (with_reducible first | exact HB.out | apply below_alloc | apply pw_below_drewN | apply below_drew1) | exact HB.out)) hb); have GA := Aside0.mk (show w.heap.size ≤ gA by rw [hg]; exact below_size (by repeat (first | (with_reducible first | exact HB.out | apply below_alloc | apply pw_below_drewN | apply below_drew1) | exact HB.out))); clear HB; have HB := NB; have BA := Aside0.mk hbox; clear NB hb hbox hg) | ((with_reducible refine gate_dst (N := 19) rfl ?_); refine box_event ?hg (N := 19) ?hd (cs := #[.string s, .int .i64 0, .int .i64 0]) (t := 62) ?hr ?_; (case hd => rfl); (case hg => rfl); (case hr => first | (go_simp; done) | (go_simp; rfl)); intro gR hg w2 hbox hb; have NB := Aside0.mk (below_step (by repeat (first | (with_reducible first | exact HB.out | apply below_alloc | apply pw_below_drewN | apply below_drew1 | refine below_set ?_ GA.out) | exact HB.out)) hb); have GR := Aside0.mk (show w.heap.size ≤ gR by rw [hg]; exact below_size (by repeat (first | (with_reducible first | exact HB.out | apply below_alloc | apply pw_below_drewN | apply below_drew1 | refine below_set ?_ GA.out) | exact HB.out))); have XBA := Aside0.mk (blk_below (o := .cells #[.bool false, .slice none 0 0, .slice none 0 0, .slice none 0 0] 25 (0, 0)) (by (with_reducible repeat (first | refine blk_drewN ?_ _ | refine blk_drew ?_ | refine blk_alloc ?_ _)); exact BA.out) hb); have NAR := Aside0.mk (show gA ≠ gR by rw [hg]; exact Nat.ne_of_lt (blk_lt (o := .cells #[.bool false, .slice none 0 0, .slice none 0 0, .slice none 0 0] 25 (0, 0)) (by (with_reducible repeat (first | refine blk_drewN ?_ _ | refine blk_drew ?_ | refine blk_alloc ?_ _)); exact BA.out))); clear HB; have HB := NB; clear BA; have BA := XBA; clear XBA; have BR := Aside0.mk hbox; clear NB hb hbox hg) | ((with_reducible refine gate_dst (N := 7) rfl ?_); refine box_event ?hg (N := 7) ?hd (cs := #[.bool false, .slice none 0 0, .slice none 0 0, .slice none 0 0]) (t := 25) ?hr ?_; (case hd => rfl); (case hg => rfl); (case hr => first | (go_simp; done) | (go_simp; rfl)); intro gN hg w3 hbox hb; have NB := Aside0.mk (below_step (by repeat (first | (with_reducible first | exact HB.out | apply below_alloc | apply pw_below_drewN | apply below_drew1 | refine below_set ?_ GA.out) | exact HB.out)) hb); have GN := Aside0.mk (show w.heap.size ≤ gN by rw [hg]; exact below_size (by repeat (first | (with_reducible first | exact HB.out | apply below_alloc | apply pw_below_drewN | apply below_drew1 | refine below_set ?_ GA.out) | exact HB.out))); have XBA := Aside0.mk (blk_below (o := .cells #[.bool false, .slice none 0 0, .slice none 0 0, .slice none 0 0] 25 (0, 0)) (by (with_reducible repeat (first | refine blk_drewN ?_ _ | refine blk_drew ?_ | refine blk_alloc ?_ _)); exact BA.out) hb); have NAN := Aside0.mk (show gA ≠ gN by rw [hg]; exact Nat.ne_of_lt (blk_lt (o := .cells #[.bool false, .slice none 0 0, .slice none 0 0, .slice none 0 0] 25 (0, 0)) (by (with_reducible repeat (first | refine blk_drewN ?_ _ | refine blk_drew ?_ | refine blk_alloc ?_ _)); exact BA.out))); have XBR := Aside0.mk (blk_below (o := .cells #[.string s, .int .i64 0, .int .i64 0] 62 (0, 0)) (by (with_reducible repeat (first | refine blk_drewN ?_ _ | refine blk_drew ?_ | refine blk_alloc ?_ _)); exact BR.out) hb); have NRN := Aside0.mk (show gR ≠ gN by rw [hg]; exact Nat.ne_of_lt (blk_lt (o := .cells #[.string s, .int .i64 0, .int .i64 0] 62 (0, 0)) (by (with_reducible repeat (first | refine blk_drewN ?_ _ | refine blk_drew ?_ | refine blk_alloc ?_ _)); exact BR.out))); clear HB; have HB := NB; clear BA; have BA := XBA; clear XBA; clear BR; have BR := XBR; clear XBR; have BN := Aside0.mk hbox; clear NB hb hbox hg; have c0 : w3.cell? ⟨gN, 0, none⟩ = some (.bool false) := (blk_cell BN.out 0).trans rfl; have c1 : w3.cell? ⟨gN, 1, none⟩ = some (.slice none 0 0) := (blk_cell BN.out 1).trans rfl; have c2 : w3.cell? ⟨gN, 2, none⟩ = some (.slice none 0 0) := (blk_cell BN.out 2).trans rfl; have c3 : w3.cell? ⟨gN, 3, none⟩ = some (.slice none 0 0) := (blk_cell BN.out 3).trans rfl; have f0 := blk_frozen BN.out 0; have f1 := blk_frozen BN.out 1; have f2 := blk_frozen BN.out 2; have f3 := blk_frozen BN.out 3))
  have X2 := Aside0.mk (show ((((w3.setCell ⟨gN, 0, none⟩ (.bool true)).setCell ⟨gN, 1, none⟩ (.slice none 0 0)).setCell ⟨gN, 2, none⟩ (.slice none 0 0)).setCell ⟨gN, 3, none⟩ (.slice none 0 0)).heap[gN]? = some (.cells #[.bool true, .slice none 0 0, .slice none 0 0, .slice none 0 0] 25 (0, 0)) from blk_put (cs := #[.bool true, .slice none 0 0, .slice none 0 0, .slice none 0 0]) (blk_put (cs := #[.bool true, .slice none 0 0, .slice none 0 0, .slice none 0 0]) (blk_put (cs := #[.bool true, .slice none 0 0, .slice none 0 0, .slice none 0 0]) (blk_put (cs := #[.bool false, .slice none 0 0, .slice none 0 0, .slice none 0 0]) BN.out 0 _ rfl) 1 _ rfl) 2 _ rfl) 3 _ rfl)
  have X1 := Aside0.mk (show ((((w3.setCell ⟨gN, 0, none⟩ (.bool true)).setCell ⟨gN, 1, none⟩ (.slice none 0 0)).setCell ⟨gN, 2, none⟩ (.slice none 0 0)).setCell ⟨gN, 3, none⟩ (.slice none 0 0)).heap[gA]? = some (.cells #[.bool false, .slice none 0 0, .slice none 0 0, .slice none 0 0] 25 (0, 0)) from blk_far (blk_far (blk_far (blk_far BA.out NAN.out _) NAN.out _) NAN.out _) NAN.out _)
  have X3 := Aside0.mk (show ((((w3.setCell ⟨gN, 0, none⟩ (.bool true)).setCell ⟨gN, 1, none⟩ (.slice none 0 0)).setCell ⟨gN, 2, none⟩ (.slice none 0 0)).setCell ⟨gN, 3, none⟩ (.slice none 0 0)).heap[gR]? = some (.cells #[.string s, .int .i64 0, .int .i64 0] 62 (0, 0)) from blk_far (blk_far (blk_far (blk_far BR.out NRN.out _) NRN.out _) NRN.out _) NRN.out _)
  have XB := Aside0.mk (show Below w.heap.size w ((((w3.setCell ⟨gN, 0, none⟩ (.bool true)).setCell ⟨gN, 1, none⟩ (.slice none 0 0)).setCell ⟨gN, 2, none⟩ (.slice none 0 0)).setCell ⟨gN, 3, none⟩ (.slice none 0 0)) from below_set (below_set (below_set (below_set HB.out GN.out) GN.out) GN.out) GN.out)
  have NNR := Aside0.mk NRN.out.symm
  have NNA := Aside0.mk NAN.out.symm
  have NRA := Aside0.mk NAR.out.symm
  clear c0 c1 c2 c3 f0 f1 f2 f3
  clear BA BN BR HB
  have BA := X1
  have BN := X2
  have BR := X3
  have HB := XB
  clear X1 X2 X3 XB
  generalize (((w3.setCell ⟨gN, 0, none⟩ (.bool true)).setCell ⟨gN, 1, none⟩ (.slice none 0 0)).setCell ⟨gN, 2, none⟩ (.slice none 0 0)).setCell ⟨gN, 3, none⟩ (.slice none 0 0) = w4 at *
  have HK := Aside0.mk (show Kd.R Kd.string 9 w4 w.heap.size (fun k_ => some k_ ≠ (.slice none 0 0 : Value).ownBlock) (.slice none 0 0) [] from Kd.R_nil _ _ _ _ _)
  have HV := Aside0.mk (show Kd.R Kd.string 9 w4 w.heap.size (fun k_ => some k_ ≠ (.slice none 0 0 : Value).ownBlock) (.slice none 0 0) [] from Kd.R_nil _ _ _ _ _)
  have HC := Aside0.mk (show Kd.R (Kd.int .i64) 3 w4 w.heap.size (fun _ => True) (.slice none 0 0) [] from Kd.R_nil _ _ _ _ _)
  go_upto_region 6 with (go_at_call 39; refine (number_calls gR s 0 0 1 m at1 bad1 H1.out _ (by (with_reducible repeat (first | refine blk_drewN ?_ _ | refine blk_drew ?_ | refine blk_alloc ?_ _)); exact BR.out) w (by repeat (first | (with_reducible first | exact HB.out | apply below_alloc | apply pw_below_drewN | apply below_drew1 | refine below_set ?_ GA.out | refine below_set ?_ GN.out | refine below_set ?_ GR.out) | exact HB.out)) GR.out).mono ?_; rintro e w5 ⟨rfl, hb4, hk, hb⟩; have X1 := Aside0.mk (KeepBut.blk (o := .cells #[.bool false, .slice none 0 0, .slice none 0 0, .slice none 0 0] 25 (0, 0)) hk (by (with_reducible repeat (first | refine blk_drewN ?_ _ | refine blk_drew ?_ | refine blk_alloc ?_ _)); exact BA.out) NAR.out (by simp)); have X2 := Aside0.mk (KeepBut.blk (o := .cells #[.bool true, .slice none 0 0, .slice none 0 0, .slice none 0 0] 25 (0, 0)) hk (by (with_reducible repeat (first | refine blk_drewN ?_ _ | refine blk_drew ?_ | refine blk_alloc ?_ _)); exact BN.out) NNR.out (by simp)); have X3 := Aside0.mk hb4; have XHK := Aside0.mk (Kd.R_mono (Kd.R_keep (Kd.R_types (by (with_reducible repeat (first | apply Kd.R_alloc | apply Kd.R_drewN | apply Kd.R_drew)); exact HK.out) (by (with_reducible repeat (first | refine blk_drewN ?_ _ | refine blk_drew ?_ | refine blk_alloc ?_ _)); exact BR.out) (by decide)) hk (fun _ h => h.2)) (fun _ h => h.1)); have XHV := Aside0.mk (Kd.R_mono (Kd.R_keep (Kd.R_types (by (with_reducible repeat (first | apply Kd.R_alloc | apply Kd.R_drewN | apply Kd.R_drew)); exact HV.out) (by (with_reducible repeat (first | refine blk_drewN ?_ _ | refine blk_drew ?_ | refine blk_alloc ?_ _)); exact BR.out) (by decide)) hk (fun _ h => h.2)) (fun _ h => h.1)); have XHC := Aside0.mk (Kd.R_mono (Kd.R_keep (Kd.R_types (by (with_reducible repeat (first | apply Kd.R_alloc | apply Kd.R_drewN | apply Kd.R_drew)); exact HC.out) (by (with_reducible repeat (first | refine blk_drewN ?_ _ | refine blk_drew ?_ | refine blk_alloc ?_ _)); exact BR.out) (by decide)) hk (fun _ h => h.2)) (fun _ h => h.1)); have XB := Aside0.mk hb; clear hb4 hk hb; clear BA BN BR HK HV HC HB; have BA := X1; have BN := X2; have BR := X3; have HK := XHK; have HV := XHV; have HC := XHC; have HB := XB; clear X1 X2 X3 XHK XHV XHC XB)
  go_wp2
  go_loopg [9] k (fun kq v9 w' => ∃ (i at_ bad : Int) (Ks Vs : List ByteArray) (Cs : List Int) (u1 u2 u3 : Value), v9 = .int .i64 i ∧ Aside0 (getL true m s kq i at_ bad Ks Vs Cs = some (at2, bad2, K2, V2, C2)) ∧ Aside0 (Kd.R Kd.string 9 w' w.heap.size (fun k_ => some k_ ≠ (u2 : Value).ownBlock) (u1) (Ks)) ∧ Aside0 (Kd.R Kd.string 9 w' w.heap.size (fun k_ => some k_ ≠ (u1 : Value).ownBlock) (u2) (Vs)) ∧ Aside0 (Kd.R (Kd.int .i64) 3 w' w.heap.size (fun _ => True) (u3) (Cs)) ∧ Aside0 (w'.heap[gA]? = some (.cells #[.bool false, .slice none 0 0, .slice none 0 0, .slice none 0 0] 25 (0, 0))) ∧ Aside0 (w'.heap[gR]? = some (.cells #[.string s, .int .i64 at_, .int .i64 bad] 62 (0, 0))) ∧ Aside0 (w'.heap[gN]? = some (.cells #[.bool true, u1, u2, u3] 25 (0, 0))) ∧ Aside0 (Below w.heap.size w w'))
  case atStart => exact ⟨0, at1, bad1, [], [], [], .slice none 0 0, .slice none 0 0, .slice none 0 0, rfl, H2, HK, HV, HC, BA, BR, BN, HB⟩
  case round =>
    clear H2 HK HV HC BA BR BN HB
    obtain ⟨i, at_, bad, Ks, Vs, Cs, u1, u2, u3, rfl, HS, HK, HV, HC, BA, BR, BN, HB⟩ := hrel
    cases gk with
    | zero => exact absurd HS.out (by simp [getL])
    | succ k2 =>
      have hs := HS.out
      rw [getL] at hs
      clear HS
      by_cases c1 : i < m
      · rw [if_pos c1] at hs
        have c1b : decide (i < m) = true := decide_eq_true c1
        by_cases c2 : bad = 0
        · subst c2
          rw [if_pos rfl] at hs
          by_cases c3 : Ks.length < 1000000 ∧ Vs.length < 1000000 ∧ Cs.length < 1000000
          case neg => rw [if_neg c3] at hs; cases hs
          rw [if_pos c3] at hs
          have LM := Aside0.mk c3
          clear c3
          rw [if_pos rfl] at hs
          obtain ⟨⟨x1, at3, bad3⟩, hh1, hs⟩ := Option.bind_eq_some_iff.1 hs
          simp only at hh1 hs
          obtain ⟨⟨x2, at4, bad4⟩, hh2, hs⟩ := Option.bind_eq_some_iff.1 hs
          simp only at hh2 hs
          have T1 := Aside0.mk hh1
          have T2 := Aside0.mk hh2
          have HS := Aside0.mk hs
          clear hh1 hh2 hs
          have b0 : wr.cell? ⟨gN, 0, none⟩ = some (.bool true) := (blk_cell BN.out 0).trans rfl
          have rr2 : wr.cell? ⟨gR, 2, none⟩ = some (.int .i64 0) := (blk_cell BR.out 2).trans rfl
          go_upto_region 10 with fail
          refine start_ (n := 8) (S := fun w' => w'.cell? ⟨gN, 1, none⟩ = some (u1)) (ds := [7]) #[false, false, false, false, false, false, false, false] (by kernel_rfl) rfl rfl (((blk_cell (blk_drew BN.out) 1).trans rfl)) (fun hHeld => ?_)
          refine pure_ (i := 0) (N := some 39) (v := ?_) (a' := ?_) #[true, false, false, false, false, false, false, false] rfl rfl (by kernel_rfl) (fun _ _ _ h => h) (Or.inl ⟨by rfl, ?_⟩) ?_ ?_
          rotate_left
          · intro w'
            go_simp
            with_reducible rfl
          rotate_left
          · simp only [Act.put, List.setIfInBounds_toArray, List.set_cons_zero, List.set_cons_succ, i64_w, i32_w]
            rfl
          refine pure_ (i := 2) (N := some 41) (v := ?_) (a' := ?_) #[true, false, true, false, false, false, false, false] rfl rfl (by kernel_rfl) (fun _ _ _ h => h) (Or.inl ⟨by rfl, ?_⟩) ?_ ?_
          rotate_left
          · intro w'
            go_simp
            with_reducible rfl
          rotate_left
          · simp only [Act.put, List.setIfInBounds_toArray, List.set_cons_zero, List.set_cons_succ, i64_w, i32_w]
            rfl
          refine take_ (i := 1) (N := some 40) (v := ?_) (a' := ?_) #[true, true, true, false, false, false, false, false] rfl rfl (by kernel_rfl) (fun _ _ _ h => h) (Or.inl ⟨by rfl, ?_⟩) hHeld ?_ ?_
          rotate_left
          · intro w' s0
            go_simp
            with_reducible rfl
          rotate_left
          · simp only [Act.put, List.setIfInBounds_toArray, List.set_cons_zero, List.set_cons_succ, i64_w, i32_w]
            rfl
          refine one_ (i := 3) (N := some 42) #[true, true, true, true, false, false, false, false] rfl rfl (by kernel_rfl) (by decide) (fun K hK => ?_)
          refine goes_ Try.func40 (by kernel_rfl) rfl #[.pointer (some ⟨gR, 0, none⟩)] (by rfl) rfl rfl (by simp only [List.map_toArray, List.map_cons, List.map_nil]; rfl) ?_
          with_reducible refine (textr_calls gR s at_ 0 x1 at3 bad3 T1.out _ (by (with_reducible repeat (first | refine blk_drewN ?_ _ | refine blk_drew ?_ | refine blk_alloc ?_ _)); exact BR.out) w (by repeat (first | (with_reducible first | exact HB.out | apply below_alloc | apply pw_below_drewN | apply below_drew1 | refine below_set ?_ GA.out | refine below_set ?_ GN.out | refine below_set ?_ GR.out) | exact HB.out)) GR.out).mono ?_
          rintro e w105 ⟨rfl, hb4, hk, hb⟩
          refine ⟨_, rfl, ?_⟩
          have X1 := Aside0.mk (KeepBut.blk (o := .cells #[.bool false, .slice none 0 0, .slice none 0 0, .slice none 0 0] 25 (0, 0)) hk (by (with_reducible repeat (first | refine blk_drewN ?_ _ | refine blk_drew ?_ | refine blk_alloc ?_ _)); exact BA.out) NAR.out (by simp))
          have X2 := Aside0.mk (KeepBut.blk (o := .cells #[.bool true, u1, u2, u3] 25 (0, 0)) hk (by (with_reducible repeat (first | refine blk_drewN ?_ _ | refine blk_drew ?_ | refine blk_alloc ?_ _)); exact BN.out) NNR.out (by simp))
          have X3 := Aside0.mk hb4
          have XHK := Aside0.mk (Kd.R_mono (Kd.R_keep (Kd.R_types (by (with_reducible repeat (first | apply Kd.R_alloc | apply Kd.R_drewN | apply Kd.R_drew)); exact HK.out) (by (with_reducible repeat (first | refine blk_drewN ?_ _ | refine blk_drew ?_ | refine blk_alloc ?_ _)); exact BR.out) (by decide)) hk (fun _ h => h.2)) (fun _ h => h.1))
          have XHV := Aside0.mk (Kd.R_mono (Kd.R_keep (Kd.R_types (by (with_reducible repeat (first | apply Kd.R_alloc | apply Kd.R_drewN | apply Kd.R_drew)); exact HV.out) (by (with_reducible repeat (first | refine blk_drewN ?_ _ | refine blk_drew ?_ | refine blk_alloc ?_ _)); exact BR.out) (by decide)) hk (fun _ h => h.2)) (fun _ h => h.1))
          have XHC := Aside0.mk (Kd.R_mono (Kd.R_keep (Kd.R_types (by (with_reducible repeat (first | apply Kd.R_alloc | apply Kd.R_drewN | apply Kd.R_drew)); exact HC.out) (by (with_reducible repeat (first | refine blk_drewN ?_ _ | refine blk_drew ?_ | refine blk_alloc ?_ _)); exact BR.out) (by decide)) hk (fun _ h => h.2)) (fun _ h => h.1))
          have XB := Aside0.mk hb
          clear hb4 hk hb
          clear BA BN BR HK HV HC HB
          have BA := X1
          have BN := X2
          have BR := X3
          have HK := XHK
          have HV := XHV
          have HC := XHC
          have HB := XB
          clear X1 X2 X3 XHK XHV XHC XB
          refine hK.out _ _ (((blk_cell BN.out 1).trans rfl)) (fun hHeld => ?_)
          clear hK K
          refine norm_ (a' := ?_) ?_ ?_
          rotate_left
          · show Act.put _ (some 42) _ = _
            simp only [Act.put, List.setIfInBounds_toArray, List.set_cons_zero, List.set_cons_succ, i64_w, i32_w]
            rfl
          refine one_ (i := 4) (N := some 43) #[true, true, true, true, true, false, false, false] rfl rfl (by kernel_rfl) (by decide) (fun K hK => ?_)
          refine value_ (w1 := ?_) (v := ?_) (by rfl) rfl ?_ ?_
          rotate_left 2
          · go_simp
            constructor
            · rfl
            · rfl
          refine hK.out _ _ (((blk_cell (blk_alloc BN.out _) 1).trans rfl)) (fun hHeld => ?_)
          clear hK K
          refine norm_ (a' := ?_) ?_ ?_
          rotate_left
          · show Act.put _ (some 43) _ = _
            simp only [Act.put, List.setIfInBounds_toArray, List.set_cons_zero, List.set_cons_succ, i64_w, i32_w]
            rfl
          refine one_ (i := 5) (N := some 44) #[true, true, true, true, true, true, false, false] rfl rfl (by kernel_rfl) (by decide) (fun K hK => ?_)
          refine Kd.R_append_step Kd.string (w0 := w) w.heap.size (by rfl) (.tmp 40) (.tmp 43) 22 9 (.string ⟨#[]⟩) 16 rfl Try.underlying22 inf9 rfl (by decide) (by omega) u1 (Ks) x1 [.string x1] (fun k_ => some k_ ≠ (u2 : Value).ownBlock) (fun _ => False) rfl rfl ?aP (fun _ hk => hk.elim) ?aF ?aO ?aB ?aS ?aL ?_
          case aP => exact rfl
          case aB => exact (by repeat (first | (with_reducible first | exact HB.out | apply below_alloc | apply pw_below_drewN | apply below_drew1 | refine below_set ?_ GA.out | refine below_set ?_ GN.out | refine below_set ?_ GR.out) | exact HB.out))
          case aF => exact (fun k_ hk => Kd.fresh' (Kd.R_lt (by (with_reducible repeat (first | apply Kd.R_alloc | apply Kd.R_drewN | apply Kd.R_drew)); exact HV.out)) k_ hk)
          case aO => exact (by (with_reducible repeat (first | apply Kd.R_alloc | apply Kd.R_drewN | apply Kd.R_drew)); exact HK.out)
          case aS => exact (below_size (by repeat (first | (with_reducible first | exact HB.out | apply below_alloc | apply pw_below_drewN | apply below_drew1 | refine below_set ?_ GA.out | refine below_set ?_ GN.out | refine below_set ?_ GR.out) | exact HB.out)))
          case aL => (have := LM.out; first | omega | (simp only [List.length_append, List.length_singleton]; omega))
          intro y_ w106 ho hb hg hat
          obtain ⟨Ay1, ny1, cy1, ey⟩ : ∃ A n c, y_ = .slice A n c := (Kd.R_slice ho).elim fun A h => h.elim fun c h => ⟨A, _, c, h⟩
          subst ey
          have XHV := Aside0.mk (Kd.R_mono (Kd.R_after (ok := (fun _ => True)) (by (with_reducible repeat (first | apply Kd.R_alloc | apply Kd.R_drewN | apply Kd.R_drew)); exact Kd.R_mono HV.out (fun _ hk => ⟨trivial, hk⟩)) hg hat) (fun _ h => h.2))
          have XHC := Aside0.mk (Kd.R_over' (by (with_reducible repeat (first | apply Kd.R_alloc | apply Kd.R_drewN | apply Kd.R_drew)); exact HC.out) (Kd.R_typed (by (with_reducible repeat (first | apply Kd.R_alloc | apply Kd.R_drewN | apply Kd.R_drew)); exact HK.out)) (by decide) hg)
          have X1 := Aside0.mk (blk_grown (g := gA) (o := .cells #[.bool false, .slice none 0 0, .slice none 0 0, .slice none 0 0] 25 (0, 0)) (by (with_reducible repeat (first | refine blk_drewN ?_ _ | refine blk_drew ?_ | refine blk_alloc ?_ _)); exact BA.out) hg (Kd.R_ne HK.out BA.out (by decide)))
          have X2 := Aside0.mk (blk_grown (g := gN) (o := .cells #[.bool true, u1, u2, u3] 25 (0, 0)) (by (with_reducible repeat (first | refine blk_drewN ?_ _ | refine blk_drew ?_ | refine blk_alloc ?_ _)); exact BN.out) hg (Kd.R_ne HK.out BN.out (by decide)))
          have X3 := Aside0.mk (blk_grown (g := gR) (o := .cells #[.string s, .int .i64 at3, .int .i64 bad3] 62 (0, 0)) (by (with_reducible repeat (first | refine blk_drewN ?_ _ | refine blk_drew ?_ | refine blk_alloc ?_ _)); exact BR.out) hg (Kd.R_ne HK.out BR.out (by decide)))
          have XB := Aside0.mk hb
          have XO := Aside0.mk ho
          clear ho hb hg hat
          clear BA BN BR HK HB HV HC
          have BA := X1
          have BN := X2
          have BR := X3
          have HK := XO
          have HB := XB
          have HV := XHV
          have HC := XHC
          clear X1 X2 X3 XO XB XHV XHC
          refine hK.out _ _ (((blk_cell BN.out 1).trans rfl)) (fun hHeld => ?_)
          clear hK K
          refine norm_ (a' := ?_) ?_ ?_
          rotate_left
          · show Act.put _ (some 44) _ = _
            simp only [Act.put, List.setIfInBounds_toArray, List.set_cons_zero, List.set_cons_succ, i64_w, i32_w]
            rfl
          refine pure_ (i := 6) (N := some 45) (v := ?_) (a' := ?_) #[true, true, true, true, true, true, true, false] rfl rfl (by kernel_rfl) (fun _ _ _ h => h) (Or.inl ⟨by rfl, ?_⟩) ?_ ?_
          rotate_left
          · intro w'
            go_simp
            with_reducible rfl
          rotate_left
          · simp only [Act.put, List.setIfInBounds_toArray, List.set_cons_zero, List.set_cons_succ, i64_w, i32_w]
            rfl
          refine last_ (i := 7) (N := none) #[true, true, true, true, true, true, true, true] rfl rfl (by kernel_rfl) (by decide) (fun K hK => ?_)
          have cS : w106.cell? ⟨gN, 1, none⟩ = some (u1) := (blk_cell BN.out 1).trans rfl
          have fS := blk_frozen BN.out 1
          refine skip_ (w1 := ?_) (by rfl) rfl ?_ ?_
          rotate_left
          · go_simp
            rfl
          refine hK.out _ _ ?_
          clear hK K
          refine done_ (by kernel_rfl) ?_
          have X2 := Aside0.mk (show (w106.setCell ⟨gN, 1, none⟩ (.slice Ay1 ny1 cy1)).heap[gN]? = some (.cells #[.bool true, (.slice Ay1 ny1 cy1), u2, u3] 25 (0, 0)) from blk_put (cs := #[.bool true, u1, u2, u3]) BN.out 1 _ rfl)
          have X1 := Aside0.mk (show (w106.setCell ⟨gN, 1, none⟩ (.slice Ay1 ny1 cy1)).heap[gA]? = some (.cells #[.bool false, .slice none 0 0, .slice none 0 0, .slice none 0 0] 25 (0, 0)) from blk_far BA.out NAN.out _)
          have X3 := Aside0.mk (show (w106.setCell ⟨gN, 1, none⟩ (.slice Ay1 ny1 cy1)).heap[gR]? = some (.cells #[.string s, .int .i64 at3, .int .i64 bad3] 62 (0, 0)) from blk_far BR.out NRN.out _)
          have XHK := Aside0.mk (Kd.R_mono (Kd.R_far (p := ⟨gN, 1, none⟩) (Kd.R_types HK.out BN.out (by decide)) (fun _ h => h.2) (.slice Ay1 ny1 cy1)) (fun _ h => h.1))
          have XHV := Aside0.mk (Kd.R_mono (Kd.R_far (p := ⟨gN, 1, none⟩) (Kd.R_types HV.out BN.out (by decide)) (fun _ h => h.2) (.slice Ay1 ny1 cy1)) (fun _ h => h.1))
          have XHC := Aside0.mk (Kd.R_mono (Kd.R_far (p := ⟨gN, 1, none⟩) (Kd.R_types HC.out BN.out (by decide)) (fun _ h => h.2) (.slice Ay1 ny1 cy1)) (fun _ h => h.1))
          have XB := Aside0.mk (show Below w.heap.size w (w106.setCell ⟨gN, 1, none⟩ (.slice Ay1 ny1 cy1)) from below_set HB.out GN.out)
          clear cS fS
          clear BA BN BR HK HV HC HB
          have BA := X1
          have BN := X2
          have BR := X3
          have HK := XHK
          have HV := XHV
          have HC := XHC
          have HB := XB
          clear X1 X2 X3 XHK XHV XHC XB
          generalize w106.setCell ⟨gN, 1, none⟩ (.slice Ay1 ny1 cy1) = w107 at *
          go_upto_region 11 with fail
          refine start_ (n := 8) (S := fun w' => w'.cell? ⟨gN, 2, none⟩ = some (u2)) (ds := [7]) #[false, false, false, false, false, false, false, false] (by kernel_rfl) rfl rfl (((blk_cell (blk_drew BN.out) 2).trans rfl)) (fun hHeld => ?_)
          refine pure_ (i := 0) (N := some 46) (v := ?_) (a' := ?_) #[true, false, false, false, false, false, false, false] rfl rfl (by kernel_rfl) (fun _ _ _ h => h) (Or.inl ⟨by rfl, ?_⟩) ?_ ?_
          rotate_left
          · intro w'
            go_simp
            with_reducible rfl
          rotate_left
          · simp only [Act.put, List.setIfInBounds_toArray, List.set_cons_zero, List.set_cons_succ, i64_w, i32_w]
            rfl
          refine pure_ (i := 2) (N := some 48) (v := ?_) (a' := ?_) #[true, false, true, false, false, false, false, false] rfl rfl (by kernel_rfl) (fun _ _ _ h => h) (Or.inl ⟨by rfl, ?_⟩) ?_ ?_
          rotate_left
          · intro w'
            go_simp
            with_reducible rfl
          rotate_left
          · simp only [Act.put, List.setIfInBounds_toArray, List.set_cons_zero, List.set_cons_succ, i64_w, i32_w]
            rfl
          refine take_ (i := 1) (N := some 47) (v := ?_) (a' := ?_) #[true, true, true, false, false, false, false, false] rfl rfl (by kernel_rfl) (fun _ _ _ h => h) (Or.inl ⟨by rfl, ?_⟩) hHeld ?_ ?_
          rotate_left
          · intro w' s0
            go_simp
            with_reducible rfl
          rotate_left
          · simp only [Act.put, List.setIfInBounds_toArray, List.set_cons_zero, List.set_cons_succ, i64_w, i32_w]
            rfl
          refine one_ (i := 3) (N := some 49) #[true, true, true, true, false, false, false, false] rfl rfl (by kernel_rfl) (by decide) (fun K hK => ?_)
          refine goes_ Try.func40 (by kernel_rfl) rfl #[.pointer (some ⟨gR, 0, none⟩)] (by rfl) rfl rfl (by simp only [List.map_toArray, List.map_cons, List.map_nil]; rfl) ?_
          with_reducible refine (textr_calls gR s at3 bad3 x2 at4 bad4 T2.out _ (by (with_reducible repeat (first | refine blk_drewN ?_ _ | refine blk_drew ?_ | refine blk_alloc ?_ _)); exact BR.out) w (by repeat (first | (with_reducible first | exact HB.out | apply below_alloc | apply pw_below_drewN | apply below_drew1 | refine below_set ?_ GA.out | refine below_set ?_ GN.out | refine below_set ?_ GR.out) | exact HB.out)) GR.out).mono ?_
          rintro e w115 ⟨rfl, hb4, hk, hb⟩
          refine ⟨_, rfl, ?_⟩
          have X1 := Aside0.mk (KeepBut.blk (o := .cells #[.bool false, .slice none 0 0, .slice none 0 0, .slice none 0 0] 25 (0, 0)) hk (by (with_reducible repeat (first | refine blk_drewN ?_ _ | refine blk_drew ?_ | refine blk_alloc ?_ _)); exact BA.out) NAR.out (by simp))
          have X2 := Aside0.mk (KeepBut.blk (o := .cells #[.bool true, (.slice Ay1 ny1 cy1), u2, u3] 25 (0, 0)) hk (by (with_reducible repeat (first | refine blk_drewN ?_ _ | refine blk_drew ?_ | refine blk_alloc ?_ _)); exact BN.out) NNR.out (by simp))
          have X3 := Aside0.mk hb4
          have XHK := Aside0.mk (Kd.R_mono (Kd.R_keep (Kd.R_types (by (with_reducible repeat (first | apply Kd.R_alloc | apply Kd.R_drewN | apply Kd.R_drew)); exact HK.out) (by (with_reducible repeat (first | refine blk_drewN ?_ _ | refine blk_drew ?_ | refine blk_alloc ?_ _)); exact BR.out) (by decide)) hk (fun _ h => h.2)) (fun _ h => h.1))
          have XHV := Aside0.mk (Kd.R_mono (Kd.R_keep (Kd.R_types (by (with_reducible repeat (first | apply Kd.R_alloc | apply Kd.R_drewN | apply Kd.R_drew)); exact HV.out) (by (with_reducible repeat (first | refine blk_drewN ?_ _ | refine blk_drew ?_ | refine blk_alloc ?_ _)); exact BR.out) (by decide)) hk (fun _ h => h.2)) (fun _ h => h.1))
          have XHC := Aside0.mk (Kd.R_mono (Kd.R_keep (Kd.R_types (by (with_reducible repeat (first | apply Kd.R_alloc | apply Kd.R_drewN | apply Kd.R_drew)); exact HC.out) (by (with_reducible repeat (first | refine blk_drewN ?_ _ | refine blk_drew ?_ | refine blk_alloc ?_ _)); exact BR.out) (by decide)) hk (fun _ h => h.2)) (fun _ h => h.1))
          have XB := Aside0.mk hb
          clear hb4 hk hb
          clear BA BN BR HK HV HC HB
          have BA := X1
          have BN := X2
          have BR := X3
          have HK := XHK
          have HV := XHV
          have HC := XHC
          have HB := XB
          clear X1 X2 X3 XHK XHV XHC XB
          refine hK.out _ _ (((blk_cell BN.out 2).trans rfl)) (fun hHeld => ?_)
          clear hK K
          refine norm_ (a' := ?_) ?_ ?_
          rotate_left
          · show Act.put _ (some 49) _ = _
            simp only [Act.put, List.setIfInBounds_toArray, List.set_cons_zero, List.set_cons_succ, i64_w, i32_w]
            rfl
          refine one_ (i := 4) (N := some 50) #[true, true, true, true, true, false, false, false] rfl rfl (by kernel_rfl) (by decide) (fun K hK => ?_)
          refine value_ (w1 := ?_) (v := ?_) (by rfl) rfl ?_ ?_
          rotate_left 2
          · go_simp
            constructor
            · rfl
            · rfl
          refine hK.out _ _ (((blk_cell (blk_alloc BN.out _) 2).trans rfl)) (fun hHeld => ?_)
          clear hK K
          refine norm_ (a' := ?_) ?_ ?_
          rotate_left
          · show Act.put _ (some 50) _ = _
            simp only [Act.put, List.setIfInBounds_toArray, List.set_cons_zero, List.set_cons_succ, i64_w, i32_w]
            rfl
          refine one_ (i := 5) (N := some 51) #[true, true, true, true, true, true, false, false] rfl rfl (by kernel_rfl) (by decide) (fun K hK => ?_)
          refine Kd.R_append_step Kd.string (w0 := w) w.heap.size (by rfl) (.tmp 47) (.tmp 50) 22 9 (.string ⟨#[]⟩) 16 rfl Try.underlying22 inf9 rfl (by decide) (by omega) u2 (Vs) x2 [.string x2] (fun k_ => some k_ ≠ ((.slice Ay1 ny1 cy1) : Value).ownBlock) (fun _ => False) rfl rfl ?aP (fun _ hk => hk.elim) ?aF ?aO ?aB ?aS ?aL ?_
          case aP => exact rfl
          case aB => exact (by repeat (first | (with_reducible first | exact HB.out | apply below_alloc | apply pw_below_drewN | apply below_drew1 | refine below_set ?_ GA.out | refine below_set ?_ GN.out | refine below_set ?_ GR.out) | exact HB.out))
          case aF => exact (fun k_ hk => Kd.fresh' (Kd.R_lt (by (with_reducible repeat (first | apply Kd.R_alloc | apply Kd.R_drewN | apply Kd.R_drew)); exact HK.out)) k_ hk)
          case aO => exact (by (with_reducible repeat (first | apply Kd.R_alloc | apply Kd.R_drewN | apply Kd.R_drew)); exact HV.out)
          case aS => exact (below_size (by repeat (first | (with_reducible first | exact HB.out | apply below_alloc | apply pw_below_drewN | apply below_drew1 | refine below_set ?_ GA.out | refine below_set ?_ GN.out | refine below_set ?_ GR.out) | exact HB.out)))
          case aL => (have := LM.out; first | omega | (simp only [List.length_append, List.length_singleton]; omega))
          intro y_ w116 ho hb hg hat
          obtain ⟨Ay2, ny2, cy2, ey⟩ : ∃ A n c, y_ = .slice A n c := (Kd.R_slice ho).elim fun A h => h.elim fun c h => ⟨A, _, c, h⟩
          subst ey
          have XHK := Aside0.mk (Kd.R_mono (Kd.R_after (ok := (fun _ => True)) (by (with_reducible repeat (first | apply Kd.R_alloc | apply Kd.R_drewN | apply Kd.R_drew)); exact Kd.R_mono HK.out (fun _ hk => ⟨trivial, hk⟩)) hg hat) (fun _ h => h.2))
          have XHC := Aside0.mk (Kd.R_over' (by (with_reducible repeat (first | apply Kd.R_alloc | apply Kd.R_drewN | apply Kd.R_drew)); exact HC.out) (Kd.R_typed (by (with_reducible repeat (first | apply Kd.R_alloc | apply Kd.R_drewN | apply Kd.R_drew)); exact HV.out)) (by decide) hg)
          have X1 := Aside0.mk (blk_grown (g := gA) (o := .cells #[.bool false, .slice none 0 0, .slice none 0 0, .slice none 0 0] 25 (0, 0)) (by (with_reducible repeat (first | refine blk_drewN ?_ _ | refine blk_drew ?_ | refine blk_alloc ?_ _)); exact BA.out) hg (Kd.R_ne HV.out BA.out (by decide)))
          have X2 := Aside0.mk (blk_grown (g := gN) (o := .cells #[.bool true, (.slice Ay1 ny1 cy1), u2, u3] 25 (0, 0)) (by (with_reducible repeat (first | refine blk_drewN ?_ _ | refine blk_drew ?_ | refine blk_alloc ?_ _)); exact BN.out) hg (Kd.R_ne HV.out BN.out (by decide)))
          have X3 := Aside0.mk (blk_grown (g := gR) (o := .cells #[.string s, .int .i64 at4, .int .i64 bad4] 62 (0, 0)) (by (with_reducible repeat (first | refine blk_drewN ?_ _ | refine blk_drew ?_ | refine blk_alloc ?_ _)); exact BR.out) hg (Kd.R_ne HV.out BR.out (by decide)))
          have XB := Aside0.mk hb
          have XO := Aside0.mk ho
          clear ho hb hg hat
          clear BA BN BR HV HB HK HC
          have BA := X1
          have BN := X2
          have BR := X3
          have HV := XO
          have HB := XB
          have HK := XHK
          have HC := XHC
          clear X1 X2 X3 XO XB XHK XHC
          refine hK.out _ _ (((blk_cell BN.out 2).trans rfl)) (fun hHeld => ?_)
          clear hK K
          refine norm_ (a' := ?_) ?_ ?_
          rotate_left
          · show Act.put _ (some 51) _ = _
            simp only [Act.put, List.setIfInBounds_toArray, List.set_cons_zero, List.set_cons_succ, i64_w, i32_w]
            rfl
          refine pure_ (i := 6) (N := some 52) (v := ?_) (a' := ?_) #[true, true, true, true, true, true, true, false] rfl rfl (by kernel_rfl) (fun _ _ _ h => h) (Or.inl ⟨by rfl, ?_⟩) ?_ ?_
          rotate_left
          · intro w'
            go_simp
            with_reducible rfl
          rotate_left
          · simp only [Act.put, List.setIfInBounds_toArray, List.set_cons_zero, List.set_cons_succ, i64_w, i32_w]
            rfl
          refine last_ (i := 7) (N := none) #[true, true, true, true, true, true, true, true] rfl rfl (by kernel_rfl) (by decide) (fun K hK => ?_)
          have cS : w116.cell? ⟨gN, 2, none⟩ = some (u2) := (blk_cell BN.out 2).trans rfl
          have fS := blk_frozen BN.out 2
          refine skip_ (w1 := ?_) (by rfl) rfl ?_ ?_
          rotate_left
          · go_simp
            rfl
          refine hK.out _ _ ?_
          clear hK K
          refine done_ (by kernel_rfl) ?_
          have X2 := Aside0.mk (show (w116.setCell ⟨gN, 2, none⟩ (.slice Ay2 ny2 cy2)).heap[gN]? = some (.cells #[.bool true, (.slice Ay1 ny1 cy1), (.slice Ay2 ny2 cy2), u3] 25 (0, 0)) from blk_put (cs := #[.bool true, (.slice Ay1 ny1 cy1), u2, u3]) BN.out 2 _ rfl)
          have X1 := Aside0.mk (show (w116.setCell ⟨gN, 2, none⟩ (.slice Ay2 ny2 cy2)).heap[gA]? = some (.cells #[.bool false, .slice none 0 0, .slice none 0 0, .slice none 0 0] 25 (0, 0)) from blk_far BA.out NAN.out _)
          have X3 := Aside0.mk (show (w116.setCell ⟨gN, 2, none⟩ (.slice Ay2 ny2 cy2)).heap[gR]? = some (.cells #[.string s, .int .i64 at4, .int .i64 bad4] 62 (0, 0)) from blk_far BR.out NRN.out _)
          have XHK := Aside0.mk (Kd.R_mono (Kd.R_far (p := ⟨gN, 2, none⟩) (Kd.R_types HK.out BN.out (by decide)) (fun _ h => h.2) (.slice Ay2 ny2 cy2)) (fun _ h => h.1))
          have XHV := Aside0.mk (Kd.R_mono (Kd.R_far (p := ⟨gN, 2, none⟩) (Kd.R_types HV.out BN.out (by decide)) (fun _ h => h.2) (.slice Ay2 ny2 cy2)) (fun _ h => h.1))
          have XHC := Aside0.mk (Kd.R_mono (Kd.R_far (p := ⟨gN, 2, none⟩) (Kd.R_types HC.out BN.out (by decide)) (fun _ h => h.2) (.slice Ay2 ny2 cy2)) (fun _ h => h.1))
          have XB := Aside0.mk (show Below w.heap.size w (w116.setCell ⟨gN, 2, none⟩ (.slice Ay2 ny2 cy2)) from below_set HB.out GN.out)
          clear cS fS
          clear BA BN BR HK HV HC HB
          have BA := X1
          have BN := X2
          have BR := X3
          have HK := XHK
          have HV := XHV
          have HC := XHC
          have HB := XB
          clear X1 X2 X3 XHK XHV XHC XB
          generalize w116.setCell ⟨gN, 2, none⟩ (.slice Ay2 ny2 cy2) = w117 at *
          go_wp2
          go_roundg k2
          case rel => exact ⟨_, at4, bad4, _, _, _, _, _, _, rfl, HS, HK, HV, HC, BA, BR, BN, HB⟩
          case measure => omega
        · rw [if_neg c2] at hs
          simp only [Option.some.injEq, Prod.mk.injEq] at hs
          obtain ⟨rfl, rfl, rfl, rfl, rfl⟩ := hs
          have c2b : (bad == 0) = false := beq_eq_false_iff_ne.mpr c2
          have c2c : (bad != 0) = true := bne_iff_ne.mpr c2
          have hz := H3.out
          clear H3
          obtain ⟨A1, cc1, rfl⟩ := Kd.R_slice HK.out
          obtain ⟨A2, cc2, rfl⟩ := Kd.R_slice HV.out
          obtain ⟨A3, cc3, rfl⟩ := Kd.R_slice HC.out
          have rr2 : wr.cell? ⟨gR, 2, none⟩ = some (.int .i64 bad) := (blk_cell BR.out 2).trans rfl
          have b0 : wr.cell? ⟨gN, 0, none⟩ = some (.bool true) := (blk_cell BN.out 0).trans rfl
          go_upto_region 16 with fail
          clear rr2 b0
          unfold endG at hz
          have hn1 := NAR.out
          have hn2 := NRA.out
          have hn3 := NAN.out
          have hn4 := NNA.out
          have a0 : wr.cell? ⟨gA, 0, none⟩ = some (.bool false) := (blk_cell BA.out 0).trans rfl
          have a1 : wr.cell? ⟨gA, 1, none⟩ = some (.slice none 0 0) := (blk_cell BA.out 1).trans rfl
          have a2 : wr.cell? ⟨gA, 2, none⟩ = some (.slice none 0 0) := (blk_cell BA.out 2).trans rfl
          have a3 : wr.cell? ⟨gA, 3, none⟩ = some (.slice none 0 0) := (blk_cell BA.out 3).trans rfl
          have af0 := blk_frozen BA.out 0
          have af1 := blk_frozen BA.out 1
          have af2 := blk_frozen BA.out 2
          have af3 := blk_frozen BA.out 3
          have b0 : wr.cell? ⟨gN, 0, none⟩ = some (.bool true) := (blk_cell BN.out 0).trans rfl
          have b1 : wr.cell? ⟨gN, 1, none⟩ = some ((.slice A1 Ks.length cc1)) := (blk_cell BN.out 1).trans rfl
          have b2 : wr.cell? ⟨gN, 2, none⟩ = some ((.slice A2 Vs.length cc2)) := (blk_cell BN.out 2).trans rfl
          have b3 : wr.cell? ⟨gN, 3, none⟩ = some ((.slice A3 Cs.length cc3)) := (blk_cell BN.out 3).trans rfl
          have rr0 : wr.cell? ⟨gR, 0, none⟩ = some (.string s) := (blk_cell BR.out 0).trans rfl
          have rr1 : wr.cell? ⟨gR, 1, none⟩ = some (.int .i64 at_) := (blk_cell BR.out 1).trans rfl
          have rr2 : wr.cell? ⟨gR, 2, none⟩ = some (.int .i64 bad) := (blk_cell BR.out 2).trans rfl
          have e1 := c2
          have e1b : (bad != 0) = true := bne_iff_ne.mpr e1
          rw [if_neg e1] at hz
          simp only [Option.some.injEq, Prod.mk.injEq] at hz
          obtain ⟨rfl, rfl, rfl, rfl, rfl⟩ := hz
          go_wp2_with fail
          go_region
          go_wp2_with fail
          refine bodyPost_ret (results_ct rfl _ _ gA 25 #[.bool false, .slice none 0 0, .slice none 0 0, .slice none 0 0] (0, 0) _ rfl (by (with_reducible repeat (first | refine blk_drewN ?_ _ | refine blk_drew ?_ | refine blk_alloc ?_ _)); refine blk_put (cs := #[.bool false, .slice none 0 0, .slice none 0 0, .slice none 0 0]) ?_ 3 _ rfl; (with_reducible repeat (first | refine blk_drewN ?_ _ | refine blk_drew ?_ | refine blk_alloc ?_ _)); refine blk_put (cs := #[.bool false, .slice none 0 0, .slice none 0 0, .slice none 0 0]) ?_ 2 _ rfl; (with_reducible repeat (first | refine blk_drewN ?_ _ | refine blk_drew ?_ | refine blk_alloc ?_ _)); refine blk_put (cs := #[.bool false, .slice none 0 0, .slice none 0 0, .slice none 0 0]) ?_ 1 _ rfl; (with_reducible repeat (first | refine blk_drewN ?_ _ | refine blk_drew ?_ | refine blk_alloc ?_ _)); refine blk_put (cs := #[.bool false, .slice none 0 0, .slice none 0 0, .slice none 0 0]) ?_ 0 _ rfl; (with_reducible repeat (first | refine blk_drewN ?_ _ | refine blk_drew ?_ | refine blk_alloc ?_ _)); exact BA.out) Try.underlying25 rfl (by kernel_rfl)) rfl ?_
          exact ⟨_, _, _, rfl, Kd.R_nil _ _ _ _ _, Kd.R_nil _ _ _ _ _, Kd.R_nil _ _ _ _ _, (by repeat (first | (with_reducible first | exact HB.out | apply below_alloc | apply pw_below_drewN | apply below_drew1 | refine below_set ?_ GA.out | refine below_set ?_ GN.out | refine below_set ?_ GR.out) | exact HB.out))⟩
      · rw [if_neg c1] at hs
        simp only [Option.some.injEq, Prod.mk.injEq] at hs
        obtain ⟨rfl, rfl, rfl, rfl, rfl⟩ := hs
        have c1b : decide (i < m) = false := decide_eq_false c1
        have hz := H3.out
        clear H3
        obtain ⟨A1, cc1, rfl⟩ := Kd.R_slice HK.out
        obtain ⟨A2, cc2, rfl⟩ := Kd.R_slice HV.out
        obtain ⟨A3, cc3, rfl⟩ := Kd.R_slice HC.out
        have rr2 : wr.cell? ⟨gR, 2, none⟩ = some (.int .i64 bad) := (blk_cell BR.out 2).trans rfl
        have b0 : wr.cell? ⟨gN, 0, none⟩ = some (.bool true) := (blk_cell BN.out 0).trans rfl
        go_upto_region 16 with fail
        clear rr2 b0
        unfold endG at hz
        have hn1 := NAR.out
        have hn2 := NRA.out
        have hn3 := NAN.out
        have hn4 := NNA.out
        have a0 : wr.cell? ⟨gA, 0, none⟩ = some (.bool false) := (blk_cell BA.out 0).trans rfl
        have a1 : wr.cell? ⟨gA, 1, none⟩ = some (.slice none 0 0) := (blk_cell BA.out 1).trans rfl
        have a2 : wr.cell? ⟨gA, 2, none⟩ = some (.slice none 0 0) := (blk_cell BA.out 2).trans rfl
        have a3 : wr.cell? ⟨gA, 3, none⟩ = some (.slice none 0 0) := (blk_cell BA.out 3).trans rfl
        have af0 := blk_frozen BA.out 0
        have af1 := blk_frozen BA.out 1
        have af2 := blk_frozen BA.out 2
        have af3 := blk_frozen BA.out 3
        have b0 : wr.cell? ⟨gN, 0, none⟩ = some (.bool true) := (blk_cell BN.out 0).trans rfl
        have b1 : wr.cell? ⟨gN, 1, none⟩ = some ((.slice A1 Ks.length cc1)) := (blk_cell BN.out 1).trans rfl
        have b2 : wr.cell? ⟨gN, 2, none⟩ = some ((.slice A2 Vs.length cc2)) := (blk_cell BN.out 2).trans rfl
        have b3 : wr.cell? ⟨gN, 3, none⟩ = some ((.slice A3 Cs.length cc3)) := (blk_cell BN.out 3).trans rfl
        have rr0 : wr.cell? ⟨gR, 0, none⟩ = some (.string s) := (blk_cell BR.out 0).trans rfl
        have rr1 : wr.cell? ⟨gR, 1, none⟩ = some (.int .i64 at_) := (blk_cell BR.out 1).trans rfl
        have rr2 : wr.cell? ⟨gR, 2, none⟩ = some (.int .i64 bad) := (blk_cell BR.out 2).trans rfl
        by_cases e1 : bad = 0
        case neg =>
          have e1b : (bad != 0) = true := bne_iff_ne.mpr e1
          rw [if_neg e1] at hz
          simp only [Option.some.injEq, Prod.mk.injEq] at hz
          obtain ⟨rfl, rfl, rfl, rfl, rfl⟩ := hz
          go_wp2_with fail
          go_region
          go_wp2_with fail
          refine bodyPost_ret (results_ct rfl _ _ gA 25 #[.bool false, .slice none 0 0, .slice none 0 0, .slice none 0 0] (0, 0) _ rfl (by (with_reducible repeat (first | refine blk_drewN ?_ _ | refine blk_drew ?_ | refine blk_alloc ?_ _)); refine blk_put (cs := #[.bool false, .slice none 0 0, .slice none 0 0, .slice none 0 0]) ?_ 3 _ rfl; (with_reducible repeat (first | refine blk_drewN ?_ _ | refine blk_drew ?_ | refine blk_alloc ?_ _)); refine blk_put (cs := #[.bool false, .slice none 0 0, .slice none 0 0, .slice none 0 0]) ?_ 2 _ rfl; (with_reducible repeat (first | refine blk_drewN ?_ _ | refine blk_drew ?_ | refine blk_alloc ?_ _)); refine blk_put (cs := #[.bool false, .slice none 0 0, .slice none 0 0, .slice none 0 0]) ?_ 1 _ rfl; (with_reducible repeat (first | refine blk_drewN ?_ _ | refine blk_drew ?_ | refine blk_alloc ?_ _)); refine blk_put (cs := #[.bool false, .slice none 0 0, .slice none 0 0, .slice none 0 0]) ?_ 0 _ rfl; (with_reducible repeat (first | refine blk_drewN ?_ _ | refine blk_drew ?_ | refine blk_alloc ?_ _)); exact BA.out) Try.underlying25 rfl (by kernel_rfl)) rfl ?_
          exact ⟨_, _, _, rfl, Kd.R_nil _ _ _ _ _, Kd.R_nil _ _ _ _ _, Kd.R_nil _ _ _ _ _, (by repeat (first | (with_reducible first | exact HB.out | apply below_alloc | apply pw_below_drewN | apply below_drew1 | refine below_set ?_ GA.out | refine below_set ?_ GN.out | refine below_set ?_ GR.out) | exact HB.out))⟩
        rw [if_pos e1] at hz
        subst e1
        by_cases e2 : at_ = (s.size : Int)
        case neg =>
          have e2b : (at_ != (s.size : Int)) = true := bne_iff_ne.mpr e2
          rw [if_neg e2] at hz
          simp only [Option.some.injEq, Prod.mk.injEq] at hz
          obtain ⟨rfl, rfl, rfl, rfl, rfl⟩ := hz
          go_wp2_with fail
          refine bodyPost_ret (results_ct rfl _ _ gA 25 #[.bool false, .slice none 0 0, .slice none 0 0, .slice none 0 0] (0, 0) _ rfl (by (with_reducible repeat (first | refine blk_drewN ?_ _ | refine blk_drew ?_ | refine blk_alloc ?_ _)); refine blk_put (cs := #[.bool false, .slice none 0 0, .slice none 0 0, .slice none 0 0]) ?_ 3 _ rfl; (with_reducible repeat (first | refine blk_drewN ?_ _ | refine blk_drew ?_ | refine blk_alloc ?_ _)); refine blk_put (cs := #[.bool false, .slice none 0 0, .slice none 0 0, .slice none 0 0]) ?_ 2 _ rfl; (with_reducible repeat (first | refine blk_drewN ?_ _ | refine blk_drew ?_ | refine blk_alloc ?_ _)); refine blk_put (cs := #[.bool false, .slice none 0 0, .slice none 0 0, .slice none 0 0]) ?_ 1 _ rfl; (with_reducible repeat (first | refine blk_drewN ?_ _ | refine blk_drew ?_ | refine blk_alloc ?_ _)); refine blk_put (cs := #[.bool false, .slice none 0 0, .slice none 0 0, .slice none 0 0]) ?_ 0 _ rfl; (with_reducible repeat (first | refine blk_drewN ?_ _ | refine blk_drew ?_ | refine blk_alloc ?_ _)); exact BA.out) Try.underlying25 rfl (by kernel_rfl)) rfl ?_
          exact ⟨_, _, _, rfl, Kd.R_nil _ _ _ _ _, Kd.R_nil _ _ _ _ _, Kd.R_nil _ _ _ _ _, (by repeat (first | (with_reducible first | exact HB.out | apply below_alloc | apply pw_below_drewN | apply below_drew1 | refine below_set ?_ GA.out | refine below_set ?_ GN.out | refine below_set ?_ GR.out) | exact HB.out))⟩
        rw [if_pos e2] at hz
        subst e2
        obtain ⟨bb, hbb, hz⟩ := Option.bind_eq_some_iff.1 hz
        have R1 := Aside0.mk hbb
        clear hbb
        cases bb
        case false =>
          rw [if_neg (by simp)] at hz
          simp only [Option.some.injEq, Prod.mk.injEq] at hz
          obtain ⟨rfl, rfl, rfl, rfl, rfl⟩ := hz
          go_wp2_with (go_at_call 14; refine (P.node_Right.calls k true A1 cc1 Ks A2 cc2 Vs A3 cc3 Cs true _ _ (by repeat (first | exact (Kd.R_reads' HK.out).2.2 | (with_reducible refine Kd.C_alloc ?_ _) | (with_reducible refine Kd.C_drewN ?_ _) | (with_reducible refine Kd.C_drew ?_))) (Kd.R_reads' HK.out).2.1 (by repeat (first | exact (Kd.R_reads' HV.out).2.2 | (with_reducible refine Kd.C_alloc ?_ _) | (with_reducible refine Kd.C_drewN ?_ _) | (with_reducible refine Kd.C_drew ?_))) (Kd.R_reads' HV.out).2.1 (by repeat (first | exact (Kd.R_reads' HC.out).2.2 | (with_reducible refine Kd.C_alloc ?_ _) | (with_reducible refine Kd.C_drewN ?_ _) | (with_reducible refine Kd.C_drew ?_))) (Kd.R_reads' HC.out).2.1 R1.out).mono ?_; rintro e w8 ⟨rfl, hb⟩; have X1 := Aside0.mk (blk_below (o := .cells #[.bool false, .slice none 0 0, .slice none 0 0, .slice none 0 0] 25 (0, 0)) (by (with_reducible repeat (first | refine blk_drewN ?_ _ | refine blk_drew ?_ | refine blk_alloc ?_ _)); exact BA.out) hb); have X2 := Aside0.mk (blk_below (o := .cells #[.bool true, (.slice A1 Ks.length cc1), (.slice A2 Vs.length cc2), (.slice A3 Cs.length cc3)] 25 (0, 0)) (by (with_reducible repeat (first | refine blk_drewN ?_ _ | refine blk_drew ?_ | refine blk_alloc ?_ _)); exact BN.out) hb); have XHK := Aside0.mk (Kd.R_below (by (with_reducible repeat (first | apply Kd.R_alloc | apply Kd.R_drewN | apply Kd.R_drew)); exact HK.out) hb); have XHV := Aside0.mk (Kd.R_below (by (with_reducible repeat (first | apply Kd.R_alloc | apply Kd.R_drewN | apply Kd.R_drew)); exact HV.out) hb); have XHC := Aside0.mk (Kd.R_below (by (with_reducible repeat (first | apply Kd.R_alloc | apply Kd.R_drewN | apply Kd.R_drew)); exact HC.out) hb); have XB := Aside0.mk (below_step (by repeat (first | (with_reducible first | exact HB.out | apply below_alloc | apply pw_below_drewN | apply below_drew1 | refine below_set ?_ GA.out | refine below_set ?_ GN.out | refine below_set ?_ GR.out) | exact HB.out)) hb); clear hb; clear BA BN HK HV HC HB; have BA := X1; have BN := X2; have HK := XHK; have HV := XHV; have HC := XHC; have HB := XB; clear X1 X2 XHK XHV XHC XB; have a0 : w8.cell? ⟨gA, 0, none⟩ = some (.bool false) := (blk_cell BA.out 0).trans rfl; have a1 : w8.cell? ⟨gA, 1, none⟩ = some (.slice none 0 0) := (blk_cell BA.out 1).trans rfl; have a2 : w8.cell? ⟨gA, 2, none⟩ = some (.slice none 0 0) := (blk_cell BA.out 2).trans rfl; have a3 : w8.cell? ⟨gA, 3, none⟩ = some (.slice none 0 0) := (blk_cell BA.out 3).trans rfl; have af0 := blk_frozen BA.out 0; have af1 := blk_frozen BA.out 1; have af2 := blk_frozen BA.out 2; have af3 := blk_frozen BA.out 3; have b0 : w8.cell? ⟨gN, 0, none⟩ = some (.bool true) := (blk_cell BN.out 0).trans rfl; have b1 : w8.cell? ⟨gN, 1, none⟩ = some ((.slice A1 Ks.length cc1)) := (blk_cell BN.out 1).trans rfl; have b2 : w8.cell? ⟨gN, 2, none⟩ = some ((.slice A2 Vs.length cc2)) := (blk_cell BN.out 2).trans rfl; have b3 : w8.cell? ⟨gN, 3, none⟩ = some ((.slice A3 Cs.length cc3)) := (blk_cell BN.out 3).trans rfl)
          refine bodyPost_ret (results_ct rfl _ _ gA 25 #[.bool false, .slice none 0 0, .slice none 0 0, .slice none 0 0] (0, 0) _ rfl (by (with_reducible repeat (first | refine blk_drewN ?_ _ | refine blk_drew ?_ | refine blk_alloc ?_ _)); refine blk_put (cs := #[.bool false, .slice none 0 0, .slice none 0 0, .slice none 0 0]) ?_ 3 _ rfl; (with_reducible repeat (first | refine blk_drewN ?_ _ | refine blk_drew ?_ | refine blk_alloc ?_ _)); refine blk_put (cs := #[.bool false, .slice none 0 0, .slice none 0 0, .slice none 0 0]) ?_ 2 _ rfl; (with_reducible repeat (first | refine blk_drewN ?_ _ | refine blk_drew ?_ | refine blk_alloc ?_ _)); refine blk_put (cs := #[.bool false, .slice none 0 0, .slice none 0 0, .slice none 0 0]) ?_ 1 _ rfl; (with_reducible repeat (first | refine blk_drewN ?_ _ | refine blk_drew ?_ | refine blk_alloc ?_ _)); refine blk_put (cs := #[.bool false, .slice none 0 0, .slice none 0 0, .slice none 0 0]) ?_ 0 _ rfl; (with_reducible repeat (first | refine blk_drewN ?_ _ | refine blk_drew ?_ | refine blk_alloc ?_ _)); exact BA.out) Try.underlying25 rfl (by kernel_rfl)) rfl ?_
          exact ⟨_, _, _, rfl, Kd.R_nil _ _ _ _ _, Kd.R_nil _ _ _ _ _, Kd.R_nil _ _ _ _ _, (by repeat (first | (with_reducible first | exact HB.out | apply below_alloc | apply pw_below_drewN | apply below_drew1 | refine below_set ?_ GA.out | refine below_set ?_ GN.out | refine below_set ?_ GR.out) | exact HB.out))⟩
        rw [if_pos rfl] at hz
        simp only [Option.some.injEq, Prod.mk.injEq] at hz
        obtain ⟨rfl, rfl, rfl, rfl, rfl⟩ := hz
        go_wp2_with (go_at_call 14; refine (P.node_Right.calls k true A1 cc1 Ks A2 cc2 Vs A3 cc3 Cs true _ _ (by repeat (first | exact (Kd.R_reads' HK.out).2.2 | (with_reducible refine Kd.C_alloc ?_ _) | (with_reducible refine Kd.C_drewN ?_ _) | (with_reducible refine Kd.C_drew ?_))) (Kd.R_reads' HK.out).2.1 (by repeat (first | exact (Kd.R_reads' HV.out).2.2 | (with_reducible refine Kd.C_alloc ?_ _) | (with_reducible refine Kd.C_drewN ?_ _) | (with_reducible refine Kd.C_drew ?_))) (Kd.R_reads' HV.out).2.1 (by repeat (first | exact (Kd.R_reads' HC.out).2.2 | (with_reducible refine Kd.C_alloc ?_ _) | (with_reducible refine Kd.C_drewN ?_ _) | (with_reducible refine Kd.C_drew ?_))) (Kd.R_reads' HC.out).2.1 R1.out).mono ?_; rintro e w8 ⟨rfl, hb⟩; have X1 := Aside0.mk (blk_below (o := .cells #[.bool false, .slice none 0 0, .slice none 0 0, .slice none 0 0] 25 (0, 0)) (by (with_reducible repeat (first | refine blk_drewN ?_ _ | refine blk_drew ?_ | refine blk_alloc ?_ _)); exact BA.out) hb); have X2 := Aside0.mk (blk_below (o := .cells #[.bool true, (.slice A1 Ks.length cc1), (.slice A2 Vs.length cc2), (.slice A3 Cs.length cc3)] 25 (0, 0)) (by (with_reducible repeat (first | refine blk_drewN ?_ _ | refine blk_drew ?_ | refine blk_alloc ?_ _)); exact BN.out) hb); have XHK := Aside0.mk (Kd.R_below (by (with_reducible repeat (first | apply Kd.R_alloc | apply Kd.R_drewN | apply Kd.R_drew)); exact HK.out) hb); have XHV := Aside0.mk (Kd.R_below (by (with_reducible repeat (first | apply Kd.R_alloc | apply Kd.R_drewN | apply Kd.R_drew)); exact HV.out) hb); have XHC := Aside0.mk (Kd.R_below (by (with_reducible repeat (first | apply Kd.R_alloc | apply Kd.R_drewN | apply Kd.R_drew)); exact HC.out) hb); have XB := Aside0.mk (below_step (by repeat (first | (with_reducible first | exact HB.out | apply below_alloc | apply pw_below_drewN | apply below_drew1 | refine below_set ?_ GA.out | refine below_set ?_ GN.out | refine below_set ?_ GR.out) | exact HB.out)) hb); clear hb; clear BA BN HK HV HC HB; have BA := X1; have BN := X2; have HK := XHK; have HV := XHV; have HC := XHC; have HB := XB; clear X1 X2 XHK XHV XHC XB; have a0 : w8.cell? ⟨gA, 0, none⟩ = some (.bool false) := (blk_cell BA.out 0).trans rfl; have a1 : w8.cell? ⟨gA, 1, none⟩ = some (.slice none 0 0) := (blk_cell BA.out 1).trans rfl; have a2 : w8.cell? ⟨gA, 2, none⟩ = some (.slice none 0 0) := (blk_cell BA.out 2).trans rfl; have a3 : w8.cell? ⟨gA, 3, none⟩ = some (.slice none 0 0) := (blk_cell BA.out 3).trans rfl; have af0 := blk_frozen BA.out 0; have af1 := blk_frozen BA.out 1; have af2 := blk_frozen BA.out 2; have af3 := blk_frozen BA.out 3; have b0 : w8.cell? ⟨gN, 0, none⟩ = some (.bool true) := (blk_cell BN.out 0).trans rfl; have b1 : w8.cell? ⟨gN, 1, none⟩ = some ((.slice A1 Ks.length cc1)) := (blk_cell BN.out 1).trans rfl; have b2 : w8.cell? ⟨gN, 2, none⟩ = some ((.slice A2 Vs.length cc2)) := (blk_cell BN.out 2).trans rfl; have b3 : w8.cell? ⟨gN, 3, none⟩ = some ((.slice A3 Cs.length cc3)) := (blk_cell BN.out 3).trans rfl)
        refine bodyPost_ret (results_ct rfl _ _ gA 25 #[.bool true, (.slice A1 Ks.length cc1), (.slice A2 Vs.length cc2), (.slice A3 Cs.length cc3)] (0, 0) _ rfl (by (with_reducible repeat (first | refine blk_drewN ?_ _ | refine blk_drew ?_ | refine blk_alloc ?_ _)); refine blk_put (cs := #[.bool true, (.slice A1 Ks.length cc1), (.slice A2 Vs.length cc2), .slice none 0 0]) ?_ 3 _ rfl; (with_reducible repeat (first | refine blk_drewN ?_ _ | refine blk_drew ?_ | refine blk_alloc ?_ _)); refine blk_put (cs := #[.bool true, (.slice A1 Ks.length cc1), .slice none 0 0, .slice none 0 0]) ?_ 2 _ rfl; (with_reducible repeat (first | refine blk_drewN ?_ _ | refine blk_drew ?_ | refine blk_alloc ?_ _)); refine blk_put (cs := #[.bool true, .slice none 0 0, .slice none 0 0, .slice none 0 0]) ?_ 1 _ rfl; (with_reducible repeat (first | refine blk_drewN ?_ _ | refine blk_drew ?_ | refine blk_alloc ?_ _)); refine blk_put (cs := #[.bool false, .slice none 0 0, .slice none 0 0, .slice none 0 0]) ?_ 0 _ rfl; (with_reducible repeat (first | refine blk_drewN ?_ _ | refine blk_drew ?_ | refine blk_alloc ?_ _)); exact BA.out) Try.underlying25 rfl (by kernel_rfl)) rfl ?_
        exact ⟨_, _, _, rfl, (by refine Kd.R_mono (Kd.R_keep (Kd.R_types HK.out BA.out (by decide)) ?_ (fun _ h => h.2)) (fun _ h => h.1); repeat (first | exact KeepBut.refl _ _ _ | refine KeepBut.set_ ?_ _ _ | refine keep_drewN ?_ _)), (by refine Kd.R_mono (Kd.R_keep (Kd.R_types HV.out BA.out (by decide)) ?_ (fun _ h => h.2)) (fun _ h => h.1); repeat (first | exact KeepBut.refl _ _ _ | refine KeepBut.set_ ?_ _ _ | refine keep_drewN ?_ _)), (by refine Kd.R_mono (Kd.R_keep (Kd.R_types HC.out BA.out (by decide)) ?_ (fun _ h => h.2)) (fun _ h => h.1); repeat (first | exact KeepBut.refl _ _ _ | refine KeepBut.set_ ?_ _ _ | refine keep_drewN ?_ _)), (by repeat (first | (with_reducible first | exact HB.out | apply below_alloc | apply pw_below_drewN | apply below_drew1 | refine below_set ?_ GA.out | refine below_set ?_ GN.out | refine below_set ?_ GR.out) | exact HB.out))⟩
set_option maxHeartbeats 4000000 in
set_option maxRecDepth 100000 in
theorem get_kid (k : Nat) (s : ByteArray) (r1 : Bool) (r2 r3 : List ByteArray) (r4 : List Int) (r5 : Int) (w : World) (h : node_Get.f k 2 s = some (r1, r2, r3, r4, r5)) :
    Calls Try.prog 26 #[.int .i64 2, .string s] w fun e w' => ∃ v1_ v2_ v3_ : Value, e = .returned (.tuple #[.agg #[.bool r1, v1_, v2_, v3_], .int .i64 r5]) ∧ Kd.R Kd.string 9 w' w.heap.size (fun k_ => some k_ ≠ (v2_ : Value).ownBlock) v1_ r2 ∧ Kd.R Kd.string 9 w' w.heap.size (fun k_ => some k_ ≠ (v1_ : Value).ownBlock) v2_ r3 ∧ Kd.R (Kd.int .i64) 3 w' w.heap.size (fun _ => True) v3_ r4 ∧ Below w.heap.size w w' := by
  have hu25 := Try.underlying25
  have hu62 := Try.underlying62
  have HB := Aside0.mk (Below.refl w.heap.size w)
  unfold node_Get.f at h
  rw [if_neg (by decide), if_pos rfl] at h
  obtain ⟨⟨m, at1, bad1⟩, h1, h⟩ := Option.bind_eq_some_iff.1 h
  obtain ⟨⟨at2, bad2, K2, V2, C2⟩, h2, h⟩ := Option.bind_eq_some_iff.1 h
  simp only at h1 h2 h
  have H1 := Aside0.mk h1
  have H2 := Aside0.mk h2
  have H3 := Aside0.mk h
  clear h1 h2 h
  go_enter Try.func26, Try.ntmps26
  go_upto_region 5 with (first | ((with_reducible refine gate_dst (N := 4) rfl ?_); refine box_event ?hg (N := 4) ?hd (cs := #[.bool false, .slice none 0 0, .slice none 0 0, .slice none 0 0]) (t := 25) ?hr ?_; (case hd => rfl); (case hg => rfl); (case hr => first | (go_simp; done) | (go_simp; rfl)); intro gA hg w1 hbox hb; have NB := Aside0.mk (below_step (by repeat (first | (with_reducible first | exact HB.out | apply below_alloc | apply pw_below_drewN | apply below_drew1) | exact HB.out)) hb); have GA := Aside0.mk (show w.heap.size ≤ gA by rw [hg]; exact below_size (by repeat (first | (with_reducible first | exact HB.out | apply below_alloc | apply pw_below_drewN | apply below_drew1) | exact HB.out))); clear HB; have HB := NB; have BA := Aside0.mk hbox; clear NB hb hbox hg) | ((with_reducible refine gate_dst (N := 19) rfl ?_); refine box_event ?hg (N := 19) ?hd (cs := #[.string s, .int .i64 0, .int .i64 0]) (t := 62) ?hr ?_; (case hd => rfl); (case hg => rfl); (case hr => first | (go_simp; done) | (go_simp; rfl)); intro gR hg w2 hbox hb; have NB := Aside0.mk (below_step (by repeat (first | (with_reducible first | exact HB.out | apply below_alloc | apply pw_below_drewN | apply below_drew1 | refine below_set ?_ GA.out) | exact HB.out)) hb); have GR := Aside0.mk (show w.heap.size ≤ gR by rw [hg]; exact below_size (by repeat (first | (with_reducible first | exact HB.out | apply below_alloc | apply pw_below_drewN | apply below_drew1 | refine below_set ?_ GA.out) | exact HB.out))); have XBA := Aside0.mk (blk_below (o := .cells #[.bool false, .slice none 0 0, .slice none 0 0, .slice none 0 0] 25 (0, 0)) (by (with_reducible repeat (first | refine blk_drewN ?_ _ | refine blk_drew ?_ | refine blk_alloc ?_ _)); exact BA.out) hb); have NAR := Aside0.mk (show gA ≠ gR by rw [hg]; exact Nat.ne_of_lt (blk_lt (o := .cells #[.bool false, .slice none 0 0, .slice none 0 0, .slice none 0 0] 25 (0, 0)) (by (with_reducible repeat (first | refine blk_drewN ?_ _ | refine blk_drew ?_ | refine blk_alloc ?_ _)); exact BA.out))); clear HB; have HB := NB; clear BA; have BA := XBA; clear XBA; have BR := Aside0.mk hbox; clear NB hb hbox hg) | ((with_reducible refine gate_dst (N := 7) rfl ?_); refine box_event ?hg (N := 7) ?hd (cs := #[.bool false, .slice none 0 0, .slice none 0 0, .slice none 0 0]) (t := 25) ?hr ?_; (case hd => rfl); (case hg => rfl); (case hr => first | (go_simp; done) | (go_simp; rfl)); intro gN hg w3 hbox hb; have NB := Aside0.mk (below_step (by repeat (first | (with_reducible first | exact HB.out | apply below_alloc | apply pw_below_drewN | apply below_drew1 | refine below_set ?_ GA.out) | exact HB.out)) hb); have GN := Aside0.mk (show w.heap.size ≤ gN by rw [hg]; exact below_size (by repeat (first | (with_reducible first | exact HB.out | apply below_alloc | apply pw_below_drewN | apply below_drew1 | refine below_set ?_ GA.out) | exact HB.out))); have XBA := Aside0.mk (blk_below (o := .cells #[.bool false, .slice none 0 0, .slice none 0 0, .slice none 0 0] 25 (0, 0)) (by (with_reducible repeat (first | refine blk_drewN ?_ _ | refine blk_drew ?_ | refine blk_alloc ?_ _)); exact BA.out) hb); have NAN := Aside0.mk (show gA ≠ gN by rw [hg]; exact Nat.ne_of_lt (blk_lt (o := .cells #[.bool false, .slice none 0 0, .slice none 0 0, .slice none 0 0] 25 (0, 0)) (by (with_reducible repeat (first | refine blk_drewN ?_ _ | refine blk_drew ?_ | refine blk_alloc ?_ _)); exact BA.out))); have XBR := Aside0.mk (blk_below (o := .cells #[.string s, .int .i64 0, .int .i64 0] 62 (0, 0)) (by (with_reducible repeat (first | refine blk_drewN ?_ _ | refine blk_drew ?_ | refine blk_alloc ?_ _)); exact BR.out) hb); have NRN := Aside0.mk (show gR ≠ gN by rw [hg]; exact Nat.ne_of_lt (blk_lt (o := .cells #[.string s, .int .i64 0, .int .i64 0] 62 (0, 0)) (by (with_reducible repeat (first | refine blk_drewN ?_ _ | refine blk_drew ?_ | refine blk_alloc ?_ _)); exact BR.out))); clear HB; have HB := NB; clear BA; have BA := XBA; clear XBA; clear BR; have BR := XBR; clear XBR; have BN := Aside0.mk hbox; clear NB hb hbox hg; have c0 : w3.cell? ⟨gN, 0, none⟩ = some (.bool false) := (blk_cell BN.out 0).trans rfl; have c1 : w3.cell? ⟨gN, 1, none⟩ = some (.slice none 0 0) := (blk_cell BN.out 1).trans rfl; have c2 : w3.cell? ⟨gN, 2, none⟩ = some (.slice none 0 0) := (blk_cell BN.out 2).trans rfl; have c3 : w3.cell? ⟨gN, 3, none⟩ = some (.slice none 0 0) := (blk_cell BN.out 3).trans rfl; have f0 := blk_frozen BN.out 0; have f1 := blk_frozen BN.out 1; have f2 := blk_frozen BN.out 2; have f3 := blk_frozen BN.out 3))
  have X2 := Aside0.mk (show ((((w3.setCell ⟨gN, 0, none⟩ (.bool false)).setCell ⟨gN, 1, none⟩ (.slice none 0 0)).setCell ⟨gN, 2, none⟩ (.slice none 0 0)).setCell ⟨gN, 3, none⟩ (.slice none 0 0)).heap[gN]? = some (.cells #[.bool false, .slice none 0 0, .slice none 0 0, .slice none 0 0] 25 (0, 0)) from blk_put (cs := #[.bool false, .slice none 0 0, .slice none 0 0, .slice none 0 0]) (blk_put (cs := #[.bool false, .slice none 0 0, .slice none 0 0, .slice none 0 0]) (blk_put (cs := #[.bool false, .slice none 0 0, .slice none 0 0, .slice none 0 0]) (blk_put (cs := #[.bool false, .slice none 0 0, .slice none 0 0, .slice none 0 0]) BN.out 0 _ rfl) 1 _ rfl) 2 _ rfl) 3 _ rfl)
  have X1 := Aside0.mk (show ((((w3.setCell ⟨gN, 0, none⟩ (.bool false)).setCell ⟨gN, 1, none⟩ (.slice none 0 0)).setCell ⟨gN, 2, none⟩ (.slice none 0 0)).setCell ⟨gN, 3, none⟩ (.slice none 0 0)).heap[gA]? = some (.cells #[.bool false, .slice none 0 0, .slice none 0 0, .slice none 0 0] 25 (0, 0)) from blk_far (blk_far (blk_far (blk_far BA.out NAN.out _) NAN.out _) NAN.out _) NAN.out _)
  have X3 := Aside0.mk (show ((((w3.setCell ⟨gN, 0, none⟩ (.bool false)).setCell ⟨gN, 1, none⟩ (.slice none 0 0)).setCell ⟨gN, 2, none⟩ (.slice none 0 0)).setCell ⟨gN, 3, none⟩ (.slice none 0 0)).heap[gR]? = some (.cells #[.string s, .int .i64 0, .int .i64 0] 62 (0, 0)) from blk_far (blk_far (blk_far (blk_far BR.out NRN.out _) NRN.out _) NRN.out _) NRN.out _)
  have XB := Aside0.mk (show Below w.heap.size w ((((w3.setCell ⟨gN, 0, none⟩ (.bool false)).setCell ⟨gN, 1, none⟩ (.slice none 0 0)).setCell ⟨gN, 2, none⟩ (.slice none 0 0)).setCell ⟨gN, 3, none⟩ (.slice none 0 0)) from below_set (below_set (below_set (below_set HB.out GN.out) GN.out) GN.out) GN.out)
  have NNR := Aside0.mk NRN.out.symm
  have NNA := Aside0.mk NAN.out.symm
  have NRA := Aside0.mk NAR.out.symm
  clear c0 c1 c2 c3 f0 f1 f2 f3
  clear BA BN BR HB
  have BA := X1
  have BN := X2
  have BR := X3
  have HB := XB
  clear X1 X2 X3 XB
  generalize (((w3.setCell ⟨gN, 0, none⟩ (.bool false)).setCell ⟨gN, 1, none⟩ (.slice none 0 0)).setCell ⟨gN, 2, none⟩ (.slice none 0 0)).setCell ⟨gN, 3, none⟩ (.slice none 0 0) = w4 at *
  have HK := Aside0.mk (show Kd.R Kd.string 9 w4 w.heap.size (fun k_ => some k_ ≠ (.slice none 0 0 : Value).ownBlock) (.slice none 0 0) [] from Kd.R_nil _ _ _ _ _)
  have HV := Aside0.mk (show Kd.R Kd.string 9 w4 w.heap.size (fun k_ => some k_ ≠ (.slice none 0 0 : Value).ownBlock) (.slice none 0 0) [] from Kd.R_nil _ _ _ _ _)
  have HC := Aside0.mk (show Kd.R (Kd.int .i64) 3 w4 w.heap.size (fun _ => True) (.slice none 0 0) [] from Kd.R_nil _ _ _ _ _)
  go_upto_region 6 with (go_at_call 39; refine (number_calls gR s 0 0 1 m at1 bad1 H1.out _ (by (with_reducible repeat (first | refine blk_drewN ?_ _ | refine blk_drew ?_ | refine blk_alloc ?_ _)); exact BR.out) w (by repeat (first | (with_reducible first | exact HB.out | apply below_alloc | apply pw_below_drewN | apply below_drew1 | refine below_set ?_ GA.out | refine below_set ?_ GN.out | refine below_set ?_ GR.out) | exact HB.out)) GR.out).mono ?_; rintro e w5 ⟨rfl, hb4, hk, hb⟩; have X1 := Aside0.mk (KeepBut.blk (o := .cells #[.bool false, .slice none 0 0, .slice none 0 0, .slice none 0 0] 25 (0, 0)) hk (by (with_reducible repeat (first | refine blk_drewN ?_ _ | refine blk_drew ?_ | refine blk_alloc ?_ _)); exact BA.out) NAR.out (by simp)); have X2 := Aside0.mk (KeepBut.blk (o := .cells #[.bool false, .slice none 0 0, .slice none 0 0, .slice none 0 0] 25 (0, 0)) hk (by (with_reducible repeat (first | refine blk_drewN ?_ _ | refine blk_drew ?_ | refine blk_alloc ?_ _)); exact BN.out) NNR.out (by simp)); have X3 := Aside0.mk hb4; have XHK := Aside0.mk (Kd.R_mono (Kd.R_keep (Kd.R_types (by (with_reducible repeat (first | apply Kd.R_alloc | apply Kd.R_drewN | apply Kd.R_drew)); exact HK.out) (by (with_reducible repeat (first | refine blk_drewN ?_ _ | refine blk_drew ?_ | refine blk_alloc ?_ _)); exact BR.out) (by decide)) hk (fun _ h => h.2)) (fun _ h => h.1)); have XHV := Aside0.mk (Kd.R_mono (Kd.R_keep (Kd.R_types (by (with_reducible repeat (first | apply Kd.R_alloc | apply Kd.R_drewN | apply Kd.R_drew)); exact HV.out) (by (with_reducible repeat (first | refine blk_drewN ?_ _ | refine blk_drew ?_ | refine blk_alloc ?_ _)); exact BR.out) (by decide)) hk (fun _ h => h.2)) (fun _ h => h.1)); have XHC := Aside0.mk (Kd.R_mono (Kd.R_keep (Kd.R_types (by (with_reducible repeat (first | apply Kd.R_alloc | apply Kd.R_drewN | apply Kd.R_drew)); exact HC.out) (by (with_reducible repeat (first | refine blk_drewN ?_ _ | refine blk_drew ?_ | refine blk_alloc ?_ _)); exact BR.out) (by decide)) hk (fun _ h => h.2)) (fun _ h => h.1)); have XB := Aside0.mk hb; clear hb4 hk hb; clear BA BN BR HK HV HC HB; have BA := X1; have BN := X2; have BR := X3; have HK := XHK; have HV := XHV; have HC := XHC; have HB := XB; clear X1 X2 X3 XHK XHV XHC XB)
  go_wp2
  go_loopg [9] k (fun kq v9 w' => ∃ (i at_ bad : Int) (Ks Vs : List ByteArray) (Cs : List Int) (u1 u2 u3 : Value), v9 = .int .i64 i ∧ Aside0 (getL false m s kq i at_ bad Ks Vs Cs = some (at2, bad2, K2, V2, C2)) ∧ Aside0 (Kd.R Kd.string 9 w' w.heap.size (fun k_ => some k_ ≠ (u2 : Value).ownBlock) (u1) (Ks)) ∧ Aside0 (Kd.R Kd.string 9 w' w.heap.size (fun k_ => some k_ ≠ (u1 : Value).ownBlock) (u2) (Vs)) ∧ Aside0 (Kd.R (Kd.int .i64) 3 w' w.heap.size (fun _ => True) (u3) (Cs)) ∧ Aside0 (w'.heap[gA]? = some (.cells #[.bool false, .slice none 0 0, .slice none 0 0, .slice none 0 0] 25 (0, 0))) ∧ Aside0 (w'.heap[gR]? = some (.cells #[.string s, .int .i64 at_, .int .i64 bad] 62 (0, 0))) ∧ Aside0 (w'.heap[gN]? = some (.cells #[.bool false, u1, u2, u3] 25 (0, 0))) ∧ Aside0 (Below w.heap.size w w'))
  case atStart => exact ⟨0, at1, bad1, [], [], [], .slice none 0 0, .slice none 0 0, .slice none 0 0, rfl, H2, HK, HV, HC, BA, BR, BN, HB⟩
  case round =>
    clear H2 HK HV HC BA BR BN HB
    obtain ⟨i, at_, bad, Ks, Vs, Cs, u1, u2, u3, rfl, HS, HK, HV, HC, BA, BR, BN, HB⟩ := hrel
    cases gk with
    | zero => exact absurd HS.out (by simp [getL])
    | succ k2 =>
      have hs := HS.out
      rw [getL] at hs
      clear HS
      by_cases c1 : i < m
      · rw [if_pos c1] at hs
        have c1b : decide (i < m) = true := decide_eq_true c1
        by_cases c2 : bad = 0
        · subst c2
          rw [if_pos rfl] at hs
          by_cases c3 : Ks.length < 1000000 ∧ Vs.length < 1000000 ∧ Cs.length < 1000000
          case neg => rw [if_neg c3] at hs; cases hs
          rw [if_pos c3] at hs
          have LM := Aside0.mk c3
          clear c3
          rw [if_neg (by simp)] at hs
          obtain ⟨⟨x1, at3, bad3⟩, hh1, hs⟩ := Option.bind_eq_some_iff.1 hs
          simp only at hh1 hs
          obtain ⟨⟨x2, at4, bad4⟩, hh2, hs⟩ := Option.bind_eq_some_iff.1 hs
          simp only at hh2 hs
          have T1 := Aside0.mk hh1
          have T2 := Aside0.mk hh2
          have HS := Aside0.mk hs
          clear hh1 hh2 hs
          have b0 : wr.cell? ⟨gN, 0, none⟩ = some (.bool false) := (blk_cell BN.out 0).trans rfl
          have rr2 : wr.cell? ⟨gR, 2, none⟩ = some (.int .i64 0) := (blk_cell BR.out 2).trans rfl
          go_upto_region 12 with fail
          refine start_ (n := 8) (S := fun w' => w'.cell? ⟨gN, 3, none⟩ = some (u3)) (ds := [7]) #[false, false, false, false, false, false, false, false] (by kernel_rfl) rfl rfl (((blk_cell (blk_drew BN.out) 3).trans rfl)) (fun hHeld => ?_)
          refine pure_ (i := 0) (N := some 53) (v := ?_) (a' := ?_) #[true, false, false, false, false, false, false, false] rfl rfl (by kernel_rfl) (fun _ _ _ h => h) (Or.inl ⟨by rfl, ?_⟩) ?_ ?_
          rotate_left
          · intro w'
            go_simp
            with_reducible rfl
          rotate_left
          · simp only [Act.put, List.setIfInBounds_toArray, List.set_cons_zero, List.set_cons_succ, i64_w, i32_w]
            rfl
          refine pure_ (i := 2) (N := some 55) (v := ?_) (a' := ?_) #[true, false, true, false, false, false, false, false] rfl rfl (by kernel_rfl) (fun _ _ _ h => h) (Or.inl ⟨by rfl, ?_⟩) ?_ ?_
          rotate_left
          · intro w'
            go_simp
            with_reducible rfl
          rotate_left
          · simp only [Act.put, List.setIfInBounds_toArray, List.set_cons_zero, List.set_cons_succ, i64_w, i32_w]
            rfl
          refine take_ (i := 1) (N := some 54) (v := ?_) (a' := ?_) #[true, true, true, false, false, false, false, false] rfl rfl (by kernel_rfl) (fun _ _ _ h => h) (Or.inl ⟨by rfl, ?_⟩) hHeld ?_ ?_
          rotate_left
          · intro w' s0
            go_simp
            with_reducible rfl
          rotate_left
          · simp only [Act.put, List.setIfInBounds_toArray, List.set_cons_zero, List.set_cons_succ, i64_w, i32_w]
            rfl
          refine one_ (i := 3) (N := some 56) #[true, true, true, true, false, false, false, false] rfl rfl (by kernel_rfl) (by decide) (fun K hK => ?_)
          refine goes_ Try.func39 (by kernel_rfl) rfl #[.pointer (some ⟨gR, 0, none⟩), .int .i64 2] (by rfl) rfl rfl (by simp only [List.map_toArray, List.map_cons, List.map_nil]; rfl) ?_
          with_reducible refine (number_calls gR s at_ 0 2 x1 at3 bad3 T1.out _ (by (with_reducible repeat (first | refine blk_drewN ?_ _ | refine blk_drew ?_ | refine blk_alloc ?_ _)); exact BR.out) w (by repeat (first | (with_reducible first | exact HB.out | apply below_alloc | apply pw_below_drewN | apply below_drew1 | refine below_set ?_ GA.out | refine below_set ?_ GN.out | refine below_set ?_ GR.out) | exact HB.out)) GR.out).mono ?_
          rintro e w125 ⟨rfl, hb4, hk, hb⟩
          refine ⟨_, rfl, ?_⟩
          have X1 := Aside0.mk (KeepBut.blk (o := .cells #[.bool false, .slice none 0 0, .slice none 0 0, .slice none 0 0] 25 (0, 0)) hk (by (with_reducible repeat (first | refine blk_drewN ?_ _ | refine blk_drew ?_ | refine blk_alloc ?_ _)); exact BA.out) NAR.out (by simp))
          have X2 := Aside0.mk (KeepBut.blk (o := .cells #[.bool false, u1, u2, u3] 25 (0, 0)) hk (by (with_reducible repeat (first | refine blk_drewN ?_ _ | refine blk_drew ?_ | refine blk_alloc ?_ _)); exact BN.out) NNR.out (by simp))
          have X3 := Aside0.mk hb4
          have XHK := Aside0.mk (Kd.R_mono (Kd.R_keep (Kd.R_types (by (with_reducible repeat (first | apply Kd.R_alloc | apply Kd.R_drewN | apply Kd.R_drew)); exact HK.out) (by (with_reducible repeat (first | refine blk_drewN ?_ _ | refine blk_drew ?_ | refine blk_alloc ?_ _)); exact BR.out) (by decide)) hk (fun _ h => h.2)) (fun _ h => h.1))
          have XHV := Aside0.mk (Kd.R_mono (Kd.R_keep (Kd.R_types (by (with_reducible repeat (first | apply Kd.R_alloc | apply Kd.R_drewN | apply Kd.R_drew)); exact HV.out) (by (with_reducible repeat (first | refine blk_drewN ?_ _ | refine blk_drew ?_ | refine blk_alloc ?_ _)); exact BR.out) (by decide)) hk (fun _ h => h.2)) (fun _ h => h.1))
          have XHC := Aside0.mk (Kd.R_mono (Kd.R_keep (Kd.R_types (by (with_reducible repeat (first | apply Kd.R_alloc | apply Kd.R_drewN | apply Kd.R_drew)); exact HC.out) (by (with_reducible repeat (first | refine blk_drewN ?_ _ | refine blk_drew ?_ | refine blk_alloc ?_ _)); exact BR.out) (by decide)) hk (fun _ h => h.2)) (fun _ h => h.1))
          have XB := Aside0.mk hb
          clear hb4 hk hb
          clear BA BN BR HK HV HC HB
          have BA := X1
          have BN := X2
          have BR := X3
          have HK := XHK
          have HV := XHV
          have HC := XHC
          have HB := XB
          clear X1 X2 X3 XHK XHV XHC XB
          refine hK.out _ _ (((blk_cell BN.out 3).trans rfl)) (fun hHeld => ?_)
          clear hK K
          refine norm_ (a' := ?_) ?_ ?_
          rotate_left
          · show Act.put _ (some 56) _ = _
            simp only [Act.put, List.setIfInBounds_toArray, List.set_cons_zero, List.set_cons_succ, i64_w, i32_w]
            rfl
          refine one_ (i := 4) (N := some 57) #[true, true, true, true, true, false, false, false] rfl rfl (by kernel_rfl) (by decide) (fun K hK => ?_)
          refine value_ (w1 := ?_) (v := ?_) (by rfl) rfl ?_ ?_
          rotate_left 2
          · go_simp
            constructor
            · rfl
            · rfl
          refine hK.out _ _ (((blk_cell (blk_alloc BN.out _) 3).trans rfl)) (fun hHeld => ?_)
          clear hK K
          refine norm_ (a' := ?_) ?_ ?_
          rotate_left
          · show Act.put _ (some 57) _ = _
            simp only [Act.put, List.setIfInBounds_toArray, List.set_cons_zero, List.set_cons_succ, i64_w, i32_w]
            rfl
          refine one_ (i := 5) (N := some 58) #[true, true, true, true, true, true, false, false] rfl rfl (by kernel_rfl) (by decide) (fun K hK => ?_)
          refine Kd.R_append_step (Kd.int .i64) (w0 := w) w.heap.size (by rfl) (.tmp 54) (.tmp 57) 23 3 (.int .i64 0) 8 rfl Try.underlying23 inf3 rfl (by decide) (by omega) u3 (Cs) x1 [.int .i64 x1] (fun _ => True) (fun _ => False) rfl rfl ?aP (fun _ hk => hk.elim) ?aF ?aO ?aB ?aS ?aL ?_
          case aP => exact rfl
          case aB => exact (by repeat (first | (with_reducible first | exact HB.out | apply below_alloc | apply pw_below_drewN | apply below_drew1 | refine below_set ?_ GA.out | refine below_set ?_ GN.out | refine below_set ?_ GR.out) | exact HB.out))
          case aF => exact (fun _ _ => trivial)
          case aO => exact (by (with_reducible repeat (first | apply Kd.R_alloc | apply Kd.R_drewN | apply Kd.R_drew)); exact HC.out)
          case aS => exact (below_size (by repeat (first | (with_reducible first | exact HB.out | apply below_alloc | apply pw_below_drewN | apply below_drew1 | refine below_set ?_ GA.out | refine below_set ?_ GN.out | refine below_set ?_ GR.out) | exact HB.out)))
          case aL => (have := LM.out; first | omega | (simp only [List.length_append, List.length_singleton]; omega))
          intro y_ w126 ho hb hg hat
          obtain ⟨Ay1, ny1, cy1, ey⟩ : ∃ A n c, y_ = .slice A n c := (Kd.R_slice ho).elim fun A h => h.elim fun c h => ⟨A, _, c, h⟩
          subst ey
          have XHK := Aside0.mk (Kd.R_over' (by (with_reducible repeat (first | apply Kd.R_alloc | apply Kd.R_drewN | apply Kd.R_drew)); exact HK.out) (Kd.R_typed (by (with_reducible repeat (first | apply Kd.R_alloc | apply Kd.R_drewN | apply Kd.R_drew)); exact HC.out)) (by decide) hg)
          have XHV := Aside0.mk (Kd.R_over' (by (with_reducible repeat (first | apply Kd.R_alloc | apply Kd.R_drewN | apply Kd.R_drew)); exact HV.out) (Kd.R_typed (by (with_reducible repeat (first | apply Kd.R_alloc | apply Kd.R_drewN | apply Kd.R_drew)); exact HC.out)) (by decide) hg)
          have X1 := Aside0.mk (blk_grown (g := gA) (o := .cells #[.bool false, .slice none 0 0, .slice none 0 0, .slice none 0 0] 25 (0, 0)) (by (with_reducible repeat (first | refine blk_drewN ?_ _ | refine blk_drew ?_ | refine blk_alloc ?_ _)); exact BA.out) hg (Kd.R_ne HC.out BA.out (by decide)))
          have X2 := Aside0.mk (blk_grown (g := gN) (o := .cells #[.bool false, u1, u2, u3] 25 (0, 0)) (by (with_reducible repeat (first | refine blk_drewN ?_ _ | refine blk_drew ?_ | refine blk_alloc ?_ _)); exact BN.out) hg (Kd.R_ne HC.out BN.out (by decide)))
          have X3 := Aside0.mk (blk_grown (g := gR) (o := .cells #[.string s, .int .i64 at3, .int .i64 bad3] 62 (0, 0)) (by (with_reducible repeat (first | refine blk_drewN ?_ _ | refine blk_drew ?_ | refine blk_alloc ?_ _)); exact BR.out) hg (Kd.R_ne HC.out BR.out (by decide)))
          have XB := Aside0.mk hb
          have XO := Aside0.mk ho
          clear ho hb hg hat
          clear BA BN BR HC HB HK HV
          have BA := X1
          have BN := X2
          have BR := X3
          have HC := XO
          have HB := XB
          have HK := XHK
          have HV := XHV
          clear X1 X2 X3 XO XB XHK XHV
          refine hK.out _ _ (((blk_cell BN.out 3).trans rfl)) (fun hHeld => ?_)
          clear hK K
          refine norm_ (a' := ?_) ?_ ?_
          rotate_left
          · show Act.put _ (some 58) _ = _
            simp only [Act.put, List.setIfInBounds_toArray, List.set_cons_zero, List.set_cons_succ, i64_w, i32_w]
            rfl
          refine pure_ (i := 6) (N := some 59) (v := ?_) (a' := ?_) #[true, true, true, true, true, true, true, false] rfl rfl (by kernel_rfl) (fun _ _ _ h => h) (Or.inl ⟨by rfl, ?_⟩) ?_ ?_
          rotate_left
          · intro w'
            go_simp
            with_reducible rfl
          rotate_left
          · simp only [Act.put, List.setIfInBounds_toArray, List.set_cons_zero, List.set_cons_succ, i64_w, i32_w]
            rfl
          refine last_ (i := 7) (N := none) #[true, true, true, true, true, true, true, true] rfl rfl (by kernel_rfl) (by decide) (fun K hK => ?_)
          have cS : w126.cell? ⟨gN, 3, none⟩ = some (u3) := (blk_cell BN.out 3).trans rfl
          have fS := blk_frozen BN.out 3
          refine skip_ (w1 := ?_) (by rfl) rfl ?_ ?_
          rotate_left
          · go_simp
            rfl
          refine hK.out _ _ ?_
          clear hK K
          refine done_ (by kernel_rfl) ?_
          have X2 := Aside0.mk (show (w126.setCell ⟨gN, 3, none⟩ (.slice Ay1 ny1 cy1)).heap[gN]? = some (.cells #[.bool false, u1, u2, (.slice Ay1 ny1 cy1)] 25 (0, 0)) from blk_put (cs := #[.bool false, u1, u2, u3]) BN.out 3 _ rfl)
          have X1 := Aside0.mk (show (w126.setCell ⟨gN, 3, none⟩ (.slice Ay1 ny1 cy1)).heap[gA]? = some (.cells #[.bool false, .slice none 0 0, .slice none 0 0, .slice none 0 0] 25 (0, 0)) from blk_far BA.out NAN.out _)
          have X3 := Aside0.mk (show (w126.setCell ⟨gN, 3, none⟩ (.slice Ay1 ny1 cy1)).heap[gR]? = some (.cells #[.string s, .int .i64 at3, .int .i64 bad3] 62 (0, 0)) from blk_far BR.out NRN.out _)
          have XHK := Aside0.mk (Kd.R_mono (Kd.R_far (p := ⟨gN, 3, none⟩) (Kd.R_types HK.out BN.out (by decide)) (fun _ h => h.2) (.slice Ay1 ny1 cy1)) (fun _ h => h.1))
          have XHV := Aside0.mk (Kd.R_mono (Kd.R_far (p := ⟨gN, 3, none⟩) (Kd.R_types HV.out BN.out (by decide)) (fun _ h => h.2) (.slice Ay1 ny1 cy1)) (fun _ h => h.1))
          have XHC := Aside0.mk (Kd.R_mono (Kd.R_far (p := ⟨gN, 3, none⟩) (Kd.R_types HC.out BN.out (by decide)) (fun _ h => h.2) (.slice Ay1 ny1 cy1)) (fun _ h => h.1))
          have XB := Aside0.mk (show Below w.heap.size w (w126.setCell ⟨gN, 3, none⟩ (.slice Ay1 ny1 cy1)) from below_set HB.out GN.out)
          clear cS fS
          clear BA BN BR HK HV HC HB
          have BA := X1
          have BN := X2
          have BR := X3
          have HK := XHK
          have HV := XHV
          have HC := XHC
          have HB := XB
          clear X1 X2 X3 XHK XHV XHC XB
          generalize w126.setCell ⟨gN, 3, none⟩ (.slice Ay1 ny1 cy1) = w127 at *
          go_upto_region 13 with fail
          refine start_ (n := 8) (S := fun w' => w'.cell? ⟨gN, 1, none⟩ = some (u1)) (ds := [7]) #[false, false, false, false, false, false, false, false] (by kernel_rfl) rfl rfl (((blk_cell (blk_drew BN.out) 1).trans rfl)) (fun hHeld => ?_)
          refine pure_ (i := 0) (N := some 60) (v := ?_) (a' := ?_) #[true, false, false, false, false, false, false, false] rfl rfl (by kernel_rfl) (fun _ _ _ h => h) (Or.inl ⟨by rfl, ?_⟩) ?_ ?_
          rotate_left
          · intro w'
            go_simp
            with_reducible rfl
          rotate_left
          · simp only [Act.put, List.setIfInBounds_toArray, List.set_cons_zero, List.set_cons_succ, i64_w, i32_w]
            rfl
          refine pure_ (i := 2) (N := some 62) (v := ?_) (a' := ?_) #[true, false, true, false, false, false, false, false] rfl rfl (by kernel_rfl) (fun _ _ _ h => h) (Or.inl ⟨by rfl, ?_⟩) ?_ ?_
          rotate_left
          · intro w'
            go_simp
            with_reducible rfl
          rotate_left
          · simp only [Act.put, List.setIfInBounds_toArray, List.set_cons_zero, List.set_cons_succ, i64_w, i32_w]
            rfl
          refine take_ (i := 1) (N := some 61) (v := ?_) (a' := ?_) #[true, true, true, false, false, false, false, false] rfl rfl (by kernel_rfl) (fun _ _ _ h => h) (Or.inl ⟨by rfl, ?_⟩) hHeld ?_ ?_
          rotate_left
          · intro w' s0
            go_simp
            with_reducible rfl
          rotate_left
          · simp only [Act.put, List.setIfInBounds_toArray, List.set_cons_zero, List.set_cons_succ, i64_w, i32_w]
            rfl
          refine one_ (i := 3) (N := some 63) #[true, true, true, true, false, false, false, false] rfl rfl (by kernel_rfl) (by decide) (fun K hK => ?_)
          refine goes_ Try.func40 (by kernel_rfl) rfl #[.pointer (some ⟨gR, 0, none⟩)] (by rfl) rfl rfl (by simp only [List.map_toArray, List.map_cons, List.map_nil]; rfl) ?_
          with_reducible refine (textr_calls gR s at3 bad3 x2 at4 bad4 T2.out _ (by (with_reducible repeat (first | refine blk_drewN ?_ _ | refine blk_drew ?_ | refine blk_alloc ?_ _)); exact BR.out) w (by repeat (first | (with_reducible first | exact HB.out | apply below_alloc | apply pw_below_drewN | apply below_drew1 | refine below_set ?_ GA.out | refine below_set ?_ GN.out | refine below_set ?_ GR.out) | exact HB.out)) GR.out).mono ?_
          rintro e w135 ⟨rfl, hb4, hk, hb⟩
          refine ⟨_, rfl, ?_⟩
          have X1 := Aside0.mk (KeepBut.blk (o := .cells #[.bool false, .slice none 0 0, .slice none 0 0, .slice none 0 0] 25 (0, 0)) hk (by (with_reducible repeat (first | refine blk_drewN ?_ _ | refine blk_drew ?_ | refine blk_alloc ?_ _)); exact BA.out) NAR.out (by simp))
          have X2 := Aside0.mk (KeepBut.blk (o := .cells #[.bool false, u1, u2, (.slice Ay1 ny1 cy1)] 25 (0, 0)) hk (by (with_reducible repeat (first | refine blk_drewN ?_ _ | refine blk_drew ?_ | refine blk_alloc ?_ _)); exact BN.out) NNR.out (by simp))
          have X3 := Aside0.mk hb4
          have XHK := Aside0.mk (Kd.R_mono (Kd.R_keep (Kd.R_types (by (with_reducible repeat (first | apply Kd.R_alloc | apply Kd.R_drewN | apply Kd.R_drew)); exact HK.out) (by (with_reducible repeat (first | refine blk_drewN ?_ _ | refine blk_drew ?_ | refine blk_alloc ?_ _)); exact BR.out) (by decide)) hk (fun _ h => h.2)) (fun _ h => h.1))
          have XHV := Aside0.mk (Kd.R_mono (Kd.R_keep (Kd.R_types (by (with_reducible repeat (first | apply Kd.R_alloc | apply Kd.R_drewN | apply Kd.R_drew)); exact HV.out) (by (with_reducible repeat (first | refine blk_drewN ?_ _ | refine blk_drew ?_ | refine blk_alloc ?_ _)); exact BR.out) (by decide)) hk (fun _ h => h.2)) (fun _ h => h.1))
          have XHC := Aside0.mk (Kd.R_mono (Kd.R_keep (Kd.R_types (by (with_reducible repeat (first | apply Kd.R_alloc | apply Kd.R_drewN | apply Kd.R_drew)); exact HC.out) (by (with_reducible repeat (first | refine blk_drewN ?_ _ | refine blk_drew ?_ | refine blk_alloc ?_ _)); exact BR.out) (by decide)) hk (fun _ h => h.2)) (fun _ h => h.1))
          have XB := Aside0.mk hb
          clear hb4 hk hb
          clear BA BN BR HK HV HC HB
          have BA := X1
          have BN := X2
          have BR := X3
          have HK := XHK
          have HV := XHV
          have HC := XHC
          have HB := XB
          clear X1 X2 X3 XHK XHV XHC XB
          refine hK.out _ _ (((blk_cell BN.out 1).trans rfl)) (fun hHeld => ?_)
          clear hK K
          refine norm_ (a' := ?_) ?_ ?_
          rotate_left
          · show Act.put _ (some 63) _ = _
            simp only [Act.put, List.setIfInBounds_toArray, List.set_cons_zero, List.set_cons_succ, i64_w, i32_w]
            rfl
          refine one_ (i := 4) (N := some 64) #[true, true, true, true, true, false, false, false] rfl rfl (by kernel_rfl) (by decide) (fun K hK => ?_)
          refine value_ (w1 := ?_) (v := ?_) (by rfl) rfl ?_ ?_
          rotate_left 2
          · go_simp
            constructor
            · rfl
            · rfl
          refine hK.out _ _ (((blk_cell (blk_alloc BN.out _) 1).trans rfl)) (fun hHeld => ?_)
          clear hK K
          refine norm_ (a' := ?_) ?_ ?_
          rotate_left
          · show Act.put _ (some 64) _ = _
            simp only [Act.put, List.setIfInBounds_toArray, List.set_cons_zero, List.set_cons_succ, i64_w, i32_w]
            rfl
          refine one_ (i := 5) (N := some 65) #[true, true, true, true, true, true, false, false] rfl rfl (by kernel_rfl) (by decide) (fun K hK => ?_)
          refine Kd.R_append_step Kd.string (w0 := w) w.heap.size (by rfl) (.tmp 61) (.tmp 64) 22 9 (.string ⟨#[]⟩) 16 rfl Try.underlying22 inf9 rfl (by decide) (by omega) u1 (Ks) x2 [.string x2] (fun k_ => some k_ ≠ (u2 : Value).ownBlock) (fun _ => False) rfl rfl ?aP (fun _ hk => hk.elim) ?aF ?aO ?aB ?aS ?aL ?_
          case aP => exact rfl
          case aB => exact (by repeat (first | (with_reducible first | exact HB.out | apply below_alloc | apply pw_below_drewN | apply below_drew1 | refine below_set ?_ GA.out | refine below_set ?_ GN.out | refine below_set ?_ GR.out) | exact HB.out))
          case aF => exact (fun k_ hk => Kd.fresh' (Kd.R_lt (by (with_reducible repeat (first | apply Kd.R_alloc | apply Kd.R_drewN | apply Kd.R_drew)); exact HV.out)) k_ hk)
          case aO => exact (by (with_reducible repeat (first | apply Kd.R_alloc | apply Kd.R_drewN | apply Kd.R_drew)); exact HK.out)
          case aS => exact (below_size (by repeat (first | (with_reducible first | exact HB.out | apply below_alloc | apply pw_below_drewN | apply below_drew1 | refine below_set ?_ GA.out | refine below_set ?_ GN.out | refine below_set ?_ GR.out) | exact HB.out)))
          case aL => (have := LM.out; first | omega | (simp only [List.length_append, List.length_singleton]; omega))
          intro y_ w136 ho hb hg hat
          obtain ⟨Ay2, ny2, cy2, ey⟩ : ∃ A n c, y_ = .slice A n c := (Kd.R_slice ho).elim fun A h => h.elim fun c h => ⟨A, _, c, h⟩
          subst ey
          have XHV := Aside0.mk (Kd.R_mono (Kd.R_after (ok := (fun _ => True)) (by (with_reducible repeat (first | apply Kd.R_alloc | apply Kd.R_drewN | apply Kd.R_drew)); exact Kd.R_mono HV.out (fun _ hk => ⟨trivial, hk⟩)) hg hat) (fun _ h => h.2))
          have XHC := Aside0.mk (Kd.R_over' (by (with_reducible repeat (first | apply Kd.R_alloc | apply Kd.R_drewN | apply Kd.R_drew)); exact HC.out) (Kd.R_typed (by (with_reducible repeat (first | apply Kd.R_alloc | apply Kd.R_drewN | apply Kd.R_drew)); exact HK.out)) (by decide) hg)
          have X1 := Aside0.mk (blk_grown (g := gA) (o := .cells #[.bool false, .slice none 0 0, .slice none 0 0, .slice none 0 0] 25 (0, 0)) (by (with_reducible repeat (first | refine blk_drewN ?_ _ | refine blk_drew ?_ | refine blk_alloc ?_ _)); exact BA.out) hg (Kd.R_ne HK.out BA.out (by decide)))
          have X2 := Aside0.mk (blk_grown (g := gN) (o := .cells #[.bool false, u1, u2, (.slice Ay1 ny1 cy1)] 25 (0, 0)) (by (with_reducible repeat (first | refine blk_drewN ?_ _ | refine blk_drew ?_ | refine blk_alloc ?_ _)); exact BN.out) hg (Kd.R_ne HK.out BN.out (by decide)))
          have X3 := Aside0.mk (blk_grown (g := gR) (o := .cells #[.string s, .int .i64 at4, .int .i64 bad4] 62 (0, 0)) (by (with_reducible repeat (first | refine blk_drewN ?_ _ | refine blk_drew ?_ | refine blk_alloc ?_ _)); exact BR.out) hg (Kd.R_ne HK.out BR.out (by decide)))
          have XB := Aside0.mk hb
          have XO := Aside0.mk ho
          clear ho hb hg hat
          clear BA BN BR HK HB HV HC
          have BA := X1
          have BN := X2
          have BR := X3
          have HK := XO
          have HB := XB
          have HV := XHV
          have HC := XHC
          clear X1 X2 X3 XO XB XHV XHC
          refine hK.out _ _ (((blk_cell BN.out 1).trans rfl)) (fun hHeld => ?_)
          clear hK K
          refine norm_ (a' := ?_) ?_ ?_
          rotate_left
          · show Act.put _ (some 65) _ = _
            simp only [Act.put, List.setIfInBounds_toArray, List.set_cons_zero, List.set_cons_succ, i64_w, i32_w]
            rfl
          refine pure_ (i := 6) (N := some 66) (v := ?_) (a' := ?_) #[true, true, true, true, true, true, true, false] rfl rfl (by kernel_rfl) (fun _ _ _ h => h) (Or.inl ⟨by rfl, ?_⟩) ?_ ?_
          rotate_left
          · intro w'
            go_simp
            with_reducible rfl
          rotate_left
          · simp only [Act.put, List.setIfInBounds_toArray, List.set_cons_zero, List.set_cons_succ, i64_w, i32_w]
            rfl
          refine last_ (i := 7) (N := none) #[true, true, true, true, true, true, true, true] rfl rfl (by kernel_rfl) (by decide) (fun K hK => ?_)
          have cS : w136.cell? ⟨gN, 1, none⟩ = some (u1) := (blk_cell BN.out 1).trans rfl
          have fS := blk_frozen BN.out 1
          refine skip_ (w1 := ?_) (by rfl) rfl ?_ ?_
          rotate_left
          · go_simp
            rfl
          refine hK.out _ _ ?_
          clear hK K
          refine done_ (by kernel_rfl) ?_
          have X2 := Aside0.mk (show (w136.setCell ⟨gN, 1, none⟩ (.slice Ay2 ny2 cy2)).heap[gN]? = some (.cells #[.bool false, (.slice Ay2 ny2 cy2), u2, (.slice Ay1 ny1 cy1)] 25 (0, 0)) from blk_put (cs := #[.bool false, u1, u2, (.slice Ay1 ny1 cy1)]) BN.out 1 _ rfl)
          have X1 := Aside0.mk (show (w136.setCell ⟨gN, 1, none⟩ (.slice Ay2 ny2 cy2)).heap[gA]? = some (.cells #[.bool false, .slice none 0 0, .slice none 0 0, .slice none 0 0] 25 (0, 0)) from blk_far BA.out NAN.out _)
          have X3 := Aside0.mk (show (w136.setCell ⟨gN, 1, none⟩ (.slice Ay2 ny2 cy2)).heap[gR]? = some (.cells #[.string s, .int .i64 at4, .int .i64 bad4] 62 (0, 0)) from blk_far BR.out NRN.out _)
          have XHK := Aside0.mk (Kd.R_mono (Kd.R_far (p := ⟨gN, 1, none⟩) (Kd.R_types HK.out BN.out (by decide)) (fun _ h => h.2) (.slice Ay2 ny2 cy2)) (fun _ h => h.1))
          have XHV := Aside0.mk (Kd.R_mono (Kd.R_far (p := ⟨gN, 1, none⟩) (Kd.R_types HV.out BN.out (by decide)) (fun _ h => h.2) (.slice Ay2 ny2 cy2)) (fun _ h => h.1))
          have XHC := Aside0.mk (Kd.R_mono (Kd.R_far (p := ⟨gN, 1, none⟩) (Kd.R_types HC.out BN.out (by decide)) (fun _ h => h.2) (.slice Ay2 ny2 cy2)) (fun _ h => h.1))
          have XB := Aside0.mk (show Below w.heap.size w (w136.setCell ⟨gN, 1, none⟩ (.slice Ay2 ny2 cy2)) from below_set HB.out GN.out)
          clear cS fS
          clear BA BN BR HK HV HC HB
          have BA := X1
          have BN := X2
          have BR := X3
          have HK := XHK
          have HV := XHV
          have HC := XHC
          have HB := XB
          clear X1 X2 X3 XHK XHV XHC XB
          generalize w136.setCell ⟨gN, 1, none⟩ (.slice Ay2 ny2 cy2) = w137 at *
          go_wp2
          go_roundg k2
          case rel => exact ⟨_, at4, bad4, _, _, _, _, _, _, rfl, HS, HK, HV, HC, BA, BR, BN, HB⟩
          case measure => omega
        · rw [if_neg c2] at hs
          simp only [Option.some.injEq, Prod.mk.injEq] at hs
          obtain ⟨rfl, rfl, rfl, rfl, rfl⟩ := hs
          have c2b : (bad == 0) = false := beq_eq_false_iff_ne.mpr c2
          have c2c : (bad != 0) = true := bne_iff_ne.mpr c2
          have hz := H3.out
          clear H3
          by_cases c5 : Cs.length < 1000000
          case neg => rw [if_neg c5] at hz; cases hz
          rw [if_pos c5] at hz
          have LM := Aside0.mk c5
          clear c5
          obtain ⟨⟨x5, at5, bad5⟩, hh5, hz⟩ := Option.bind_eq_some_iff.1 hz
          simp only at hh5 hz
          have T5 := Aside0.mk hh5
          have hbad : bad5 ≠ 0 := by (unfold numberF at hh5; rw [if_neg c2] at hh5; simp only [Option.some.injEq, Prod.mk.injEq] at hh5; obtain ⟨_, _, rfl⟩ := hh5; exact c2)
          have rr2 : wr.cell? ⟨gR, 2, none⟩ = some (.int .i64 bad) := (blk_cell BR.out 2).trans rfl
          have b0 : wr.cell? ⟨gN, 0, none⟩ = some (.bool false) := (blk_cell BN.out 0).trans rfl
          go_upto_region 15 with fail
          clear rr2 b0
          refine start_ (n := 8) (S := fun w' => w'.cell? ⟨gN, 3, none⟩ = some (u3)) (ds := [7]) #[false, false, false, false, false, false, false, false] (by kernel_rfl) rfl rfl (((blk_cell (blk_drew BN.out) 3).trans rfl)) (fun hHeld => ?_)
          refine pure_ (i := 0) (N := some 70) (v := ?_) (a' := ?_) #[true, false, false, false, false, false, false, false] rfl rfl (by kernel_rfl) (fun _ _ _ h => h) (Or.inl ⟨by rfl, ?_⟩) ?_ ?_
          rotate_left
          · intro w'
            go_simp
            with_reducible rfl
          rotate_left
          · simp only [Act.put, List.setIfInBounds_toArray, List.set_cons_zero, List.set_cons_succ, i64_w, i32_w]
            rfl
          refine pure_ (i := 2) (N := some 72) (v := ?_) (a' := ?_) #[true, false, true, false, false, false, false, false] rfl rfl (by kernel_rfl) (fun _ _ _ h => h) (Or.inl ⟨by rfl, ?_⟩) ?_ ?_
          rotate_left
          · intro w'
            go_simp
            with_reducible rfl
          rotate_left
          · simp only [Act.put, List.setIfInBounds_toArray, List.set_cons_zero, List.set_cons_succ, i64_w, i32_w]
            rfl
          refine take_ (i := 1) (N := some 71) (v := ?_) (a' := ?_) #[true, true, true, false, false, false, false, false] rfl rfl (by kernel_rfl) (fun _ _ _ h => h) (Or.inl ⟨by rfl, ?_⟩) hHeld ?_ ?_
          rotate_left
          · intro w' s0
            go_simp
            with_reducible rfl
          rotate_left
          · simp only [Act.put, List.setIfInBounds_toArray, List.set_cons_zero, List.set_cons_succ, i64_w, i32_w]
            rfl
          refine one_ (i := 3) (N := some 73) #[true, true, true, true, false, false, false, false] rfl rfl (by kernel_rfl) (by decide) (fun K hK => ?_)
          refine goes_ Try.func39 (by kernel_rfl) rfl #[.pointer (some ⟨gR, 0, none⟩), .int .i64 2] (by rfl) rfl rfl (by simp only [List.map_toArray, List.map_cons, List.map_nil]; rfl) ?_
          with_reducible refine (number_calls gR s at_ bad 2 x5 at5 bad5 T5.out _ (by (with_reducible repeat (first | refine blk_drewN ?_ _ | refine blk_drew ?_ | refine blk_alloc ?_ _)); exact BR.out) w (by repeat (first | (with_reducible first | exact HB.out | apply below_alloc | apply pw_below_drewN | apply below_drew1 | refine below_set ?_ GA.out | refine below_set ?_ GN.out | refine below_set ?_ GR.out) | exact HB.out)) GR.out).mono ?_
          rintro e w155 ⟨rfl, hb4, hk, hb⟩
          refine ⟨_, rfl, ?_⟩
          have X1 := Aside0.mk (KeepBut.blk (o := .cells #[.bool false, .slice none 0 0, .slice none 0 0, .slice none 0 0] 25 (0, 0)) hk (by (with_reducible repeat (first | refine blk_drewN ?_ _ | refine blk_drew ?_ | refine blk_alloc ?_ _)); exact BA.out) NAR.out (by simp))
          have X2 := Aside0.mk (KeepBut.blk (o := .cells #[.bool false, u1, u2, u3] 25 (0, 0)) hk (by (with_reducible repeat (first | refine blk_drewN ?_ _ | refine blk_drew ?_ | refine blk_alloc ?_ _)); exact BN.out) NNR.out (by simp))
          have X3 := Aside0.mk hb4
          have XHK := Aside0.mk (Kd.R_mono (Kd.R_keep (Kd.R_types (by (with_reducible repeat (first | apply Kd.R_alloc | apply Kd.R_drewN | apply Kd.R_drew)); exact HK.out) (by (with_reducible repeat (first | refine blk_drewN ?_ _ | refine blk_drew ?_ | refine blk_alloc ?_ _)); exact BR.out) (by decide)) hk (fun _ h => h.2)) (fun _ h => h.1))
          have XHV := Aside0.mk (Kd.R_mono (Kd.R_keep (Kd.R_types (by (with_reducible repeat (first | apply Kd.R_alloc | apply Kd.R_drewN | apply Kd.R_drew)); exact HV.out) (by (with_reducible repeat (first | refine blk_drewN ?_ _ | refine blk_drew ?_ | refine blk_alloc ?_ _)); exact BR.out) (by decide)) hk (fun _ h => h.2)) (fun _ h => h.1))
          have XHC := Aside0.mk (Kd.R_mono (Kd.R_keep (Kd.R_types (by (with_reducible repeat (first | apply Kd.R_alloc | apply Kd.R_drewN | apply Kd.R_drew)); exact HC.out) (by (with_reducible repeat (first | refine blk_drewN ?_ _ | refine blk_drew ?_ | refine blk_alloc ?_ _)); exact BR.out) (by decide)) hk (fun _ h => h.2)) (fun _ h => h.1))
          have XB := Aside0.mk hb
          clear hb4 hk hb
          clear BA BN BR HK HV HC HB
          have BA := X1
          have BN := X2
          have BR := X3
          have HK := XHK
          have HV := XHV
          have HC := XHC
          have HB := XB
          clear X1 X2 X3 XHK XHV XHC XB
          refine hK.out _ _ (((blk_cell BN.out 3).trans rfl)) (fun hHeld => ?_)
          clear hK K
          refine norm_ (a' := ?_) ?_ ?_
          rotate_left
          · show Act.put _ (some 73) _ = _
            simp only [Act.put, List.setIfInBounds_toArray, List.set_cons_zero, List.set_cons_succ, i64_w, i32_w]
            rfl
          refine one_ (i := 4) (N := some 74) #[true, true, true, true, true, false, false, false] rfl rfl (by kernel_rfl) (by decide) (fun K hK => ?_)
          refine value_ (w1 := ?_) (v := ?_) (by rfl) rfl ?_ ?_
          rotate_left 2
          · go_simp
            constructor
            · rfl
            · rfl
          refine hK.out _ _ (((blk_cell (blk_alloc BN.out _) 3).trans rfl)) (fun hHeld => ?_)
          clear hK K
          refine norm_ (a' := ?_) ?_ ?_
          rotate_left
          · show Act.put _ (some 74) _ = _
            simp only [Act.put, List.setIfInBounds_toArray, List.set_cons_zero, List.set_cons_succ, i64_w, i32_w]
            rfl
          refine one_ (i := 5) (N := some 75) #[true, true, true, true, true, true, false, false] rfl rfl (by kernel_rfl) (by decide) (fun K hK => ?_)
          refine Kd.R_append_step (Kd.int .i64) (w0 := w) w.heap.size (by rfl) (.tmp 71) (.tmp 74) 23 3 (.int .i64 0) 8 rfl Try.underlying23 inf3 rfl (by decide) (by omega) u3 (Cs) x5 [.int .i64 x5] (fun _ => True) (fun _ => False) rfl rfl ?aP (fun _ hk => hk.elim) ?aF ?aO ?aB ?aS ?aL ?_
          case aP => exact rfl
          case aB => exact (by repeat (first | (with_reducible first | exact HB.out | apply below_alloc | apply pw_below_drewN | apply below_drew1 | refine below_set ?_ GA.out | refine below_set ?_ GN.out | refine below_set ?_ GR.out) | exact HB.out))
          case aF => exact (fun _ _ => trivial)
          case aO => exact (by (with_reducible repeat (first | apply Kd.R_alloc | apply Kd.R_drewN | apply Kd.R_drew)); exact HC.out)
          case aS => exact (below_size (by repeat (first | (with_reducible first | exact HB.out | apply below_alloc | apply pw_below_drewN | apply below_drew1 | refine below_set ?_ GA.out | refine below_set ?_ GN.out | refine below_set ?_ GR.out) | exact HB.out)))
          case aL => (have := LM.out; first | omega | (simp only [List.length_append, List.length_singleton]; omega))
          intro y_ w156 ho hb hg hat
          obtain ⟨Ay5, ny5, cy5, ey⟩ : ∃ A n c, y_ = .slice A n c := (Kd.R_slice ho).elim fun A h => h.elim fun c h => ⟨A, _, c, h⟩
          subst ey
          have XHK := Aside0.mk (Kd.R_over' (by (with_reducible repeat (first | apply Kd.R_alloc | apply Kd.R_drewN | apply Kd.R_drew)); exact HK.out) (Kd.R_typed (by (with_reducible repeat (first | apply Kd.R_alloc | apply Kd.R_drewN | apply Kd.R_drew)); exact HC.out)) (by decide) hg)
          have XHV := Aside0.mk (Kd.R_over' (by (with_reducible repeat (first | apply Kd.R_alloc | apply Kd.R_drewN | apply Kd.R_drew)); exact HV.out) (Kd.R_typed (by (with_reducible repeat (first | apply Kd.R_alloc | apply Kd.R_drewN | apply Kd.R_drew)); exact HC.out)) (by decide) hg)
          have X1 := Aside0.mk (blk_grown (g := gA) (o := .cells #[.bool false, .slice none 0 0, .slice none 0 0, .slice none 0 0] 25 (0, 0)) (by (with_reducible repeat (first | refine blk_drewN ?_ _ | refine blk_drew ?_ | refine blk_alloc ?_ _)); exact BA.out) hg (Kd.R_ne HC.out BA.out (by decide)))
          have X2 := Aside0.mk (blk_grown (g := gN) (o := .cells #[.bool false, u1, u2, u3] 25 (0, 0)) (by (with_reducible repeat (first | refine blk_drewN ?_ _ | refine blk_drew ?_ | refine blk_alloc ?_ _)); exact BN.out) hg (Kd.R_ne HC.out BN.out (by decide)))
          have X3 := Aside0.mk (blk_grown (g := gR) (o := .cells #[.string s, .int .i64 at5, .int .i64 bad5] 62 (0, 0)) (by (with_reducible repeat (first | refine blk_drewN ?_ _ | refine blk_drew ?_ | refine blk_alloc ?_ _)); exact BR.out) hg (Kd.R_ne HC.out BR.out (by decide)))
          have XB := Aside0.mk hb
          have XO := Aside0.mk ho
          clear ho hb hg hat
          clear BA BN BR HC HB HK HV
          have BA := X1
          have BN := X2
          have BR := X3
          have HC := XO
          have HB := XB
          have HK := XHK
          have HV := XHV
          clear X1 X2 X3 XO XB XHK XHV
          refine hK.out _ _ (((blk_cell BN.out 3).trans rfl)) (fun hHeld => ?_)
          clear hK K
          refine norm_ (a' := ?_) ?_ ?_
          rotate_left
          · show Act.put _ (some 75) _ = _
            simp only [Act.put, List.setIfInBounds_toArray, List.set_cons_zero, List.set_cons_succ, i64_w, i32_w]
            rfl
          refine pure_ (i := 6) (N := some 76) (v := ?_) (a' := ?_) #[true, true, true, true, true, true, true, false] rfl rfl (by kernel_rfl) (fun _ _ _ h => h) (Or.inl ⟨by rfl, ?_⟩) ?_ ?_
          rotate_left
          · intro w'
            go_simp
            with_reducible rfl
          rotate_left
          · simp only [Act.put, List.setIfInBounds_toArray, List.set_cons_zero, List.set_cons_succ, i64_w, i32_w]
            rfl
          refine last_ (i := 7) (N := none) #[true, true, true, true, true, true, true, true] rfl rfl (by kernel_rfl) (by decide) (fun K hK => ?_)
          have cS : w156.cell? ⟨gN, 3, none⟩ = some (u3) := (blk_cell BN.out 3).trans rfl
          have fS := blk_frozen BN.out 3
          refine skip_ (w1 := ?_) (by rfl) rfl ?_ ?_
          rotate_left
          · go_simp
            rfl
          refine hK.out _ _ ?_
          clear hK K
          refine done_ (by kernel_rfl) ?_
          have X2 := Aside0.mk (show (w156.setCell ⟨gN, 3, none⟩ (.slice Ay5 ny5 cy5)).heap[gN]? = some (.cells #[.bool false, u1, u2, (.slice Ay5 ny5 cy5)] 25 (0, 0)) from blk_put (cs := #[.bool false, u1, u2, u3]) BN.out 3 _ rfl)
          have X1 := Aside0.mk (show (w156.setCell ⟨gN, 3, none⟩ (.slice Ay5 ny5 cy5)).heap[gA]? = some (.cells #[.bool false, .slice none 0 0, .slice none 0 0, .slice none 0 0] 25 (0, 0)) from blk_far BA.out NAN.out _)
          have X3 := Aside0.mk (show (w156.setCell ⟨gN, 3, none⟩ (.slice Ay5 ny5 cy5)).heap[gR]? = some (.cells #[.string s, .int .i64 at5, .int .i64 bad5] 62 (0, 0)) from blk_far BR.out NRN.out _)
          have XHK := Aside0.mk (Kd.R_mono (Kd.R_far (p := ⟨gN, 3, none⟩) (Kd.R_types HK.out BN.out (by decide)) (fun _ h => h.2) (.slice Ay5 ny5 cy5)) (fun _ h => h.1))
          have XHV := Aside0.mk (Kd.R_mono (Kd.R_far (p := ⟨gN, 3, none⟩) (Kd.R_types HV.out BN.out (by decide)) (fun _ h => h.2) (.slice Ay5 ny5 cy5)) (fun _ h => h.1))
          have XHC := Aside0.mk (Kd.R_mono (Kd.R_far (p := ⟨gN, 3, none⟩) (Kd.R_types HC.out BN.out (by decide)) (fun _ h => h.2) (.slice Ay5 ny5 cy5)) (fun _ h => h.1))
          have XB := Aside0.mk (show Below w.heap.size w (w156.setCell ⟨gN, 3, none⟩ (.slice Ay5 ny5 cy5)) from below_set HB.out GN.out)
          clear cS fS
          clear BA BN BR HK HV HC HB
          have BA := X1
          have BN := X2
          have BR := X3
          have HK := XHK
          have HV := XHV
          have HC := XHC
          have HB := XB
          clear X1 X2 X3 XHK XHV XHC XB
          generalize w156.setCell ⟨gN, 3, none⟩ (.slice Ay5 ny5 cy5) = w157 at *
          clear hh5 T5
          generalize Cs ++ [x5] = C5 at *
          generalize hu5 : (.slice Ay5 ny5 cy5 : Value) = u5 at *
          obtain ⟨A1, cc1, rfl⟩ := Kd.R_slice HK.out
          obtain ⟨A2, cc2, rfl⟩ := Kd.R_slice HV.out
          obtain ⟨A3, cc3, eu5⟩ := Kd.R_slice HC.out
          subst eu5
          clear hu5
          unfold endG at hz
          have hn1 := NAR.out
          have hn2 := NRA.out
          have hn3 := NAN.out
          have hn4 := NNA.out
          have a0 : w157.cell? ⟨gA, 0, none⟩ = some (.bool false) := (blk_cell BA.out 0).trans rfl
          have a1 : w157.cell? ⟨gA, 1, none⟩ = some (.slice none 0 0) := (blk_cell BA.out 1).trans rfl
          have a2 : w157.cell? ⟨gA, 2, none⟩ = some (.slice none 0 0) := (blk_cell BA.out 2).trans rfl
          have a3 : w157.cell? ⟨gA, 3, none⟩ = some (.slice none 0 0) := (blk_cell BA.out 3).trans rfl
          have af0 := blk_frozen BA.out 0
          have af1 := blk_frozen BA.out 1
          have af2 := blk_frozen BA.out 2
          have af3 := blk_frozen BA.out 3
          have b0 : w157.cell? ⟨gN, 0, none⟩ = some (.bool false) := (blk_cell BN.out 0).trans rfl
          have b1 : w157.cell? ⟨gN, 1, none⟩ = some ((.slice A1 Ks.length cc1)) := (blk_cell BN.out 1).trans rfl
          have b2 : w157.cell? ⟨gN, 2, none⟩ = some ((.slice A2 Vs.length cc2)) := (blk_cell BN.out 2).trans rfl
          have b3 : w157.cell? ⟨gN, 3, none⟩ = some ((.slice A3 C5.length cc3)) := (blk_cell BN.out 3).trans rfl
          have rr0 : w157.cell? ⟨gR, 0, none⟩ = some (.string s) := (blk_cell BR.out 0).trans rfl
          have rr1 : w157.cell? ⟨gR, 1, none⟩ = some (.int .i64 at5) := (blk_cell BR.out 1).trans rfl
          have rr2 : w157.cell? ⟨gR, 2, none⟩ = some (.int .i64 bad5) := (blk_cell BR.out 2).trans rfl
          have e1 := hbad
          have e1b : (bad5 != 0) = true := bne_iff_ne.mpr e1
          rw [if_neg e1] at hz
          simp only [Option.some.injEq, Prod.mk.injEq] at hz
          obtain ⟨rfl, rfl, rfl, rfl, rfl⟩ := hz
          go_wp2_with fail
          go_region
          go_wp2_with fail
          refine bodyPost_ret (results_ct rfl _ _ gA 25 #[.bool false, .slice none 0 0, .slice none 0 0, .slice none 0 0] (0, 0) _ rfl (by (with_reducible repeat (first | refine blk_drewN ?_ _ | refine blk_drew ?_ | refine blk_alloc ?_ _)); refine blk_put (cs := #[.bool false, .slice none 0 0, .slice none 0 0, .slice none 0 0]) ?_ 3 _ rfl; (with_reducible repeat (first | refine blk_drewN ?_ _ | refine blk_drew ?_ | refine blk_alloc ?_ _)); refine blk_put (cs := #[.bool false, .slice none 0 0, .slice none 0 0, .slice none 0 0]) ?_ 2 _ rfl; (with_reducible repeat (first | refine blk_drewN ?_ _ | refine blk_drew ?_ | refine blk_alloc ?_ _)); refine blk_put (cs := #[.bool false, .slice none 0 0, .slice none 0 0, .slice none 0 0]) ?_ 1 _ rfl; (with_reducible repeat (first | refine blk_drewN ?_ _ | refine blk_drew ?_ | refine blk_alloc ?_ _)); refine blk_put (cs := #[.bool false, .slice none 0 0, .slice none 0 0, .slice none 0 0]) ?_ 0 _ rfl; (with_reducible repeat (first | refine blk_drewN ?_ _ | refine blk_drew ?_ | refine blk_alloc ?_ _)); exact BA.out) Try.underlying25 rfl (by kernel_rfl)) rfl ?_
          exact ⟨_, _, _, rfl, Kd.R_nil _ _ _ _ _, Kd.R_nil _ _ _ _ _, Kd.R_nil _ _ _ _ _, (by repeat (first | (with_reducible first | exact HB.out | apply below_alloc | apply pw_below_drewN | apply below_drew1 | refine below_set ?_ GA.out | refine below_set ?_ GN.out | refine below_set ?_ GR.out) | exact HB.out))⟩
      · rw [if_neg c1] at hs
        simp only [Option.some.injEq, Prod.mk.injEq] at hs
        obtain ⟨rfl, rfl, rfl, rfl, rfl⟩ := hs
        have c1b : decide (i < m) = false := decide_eq_false c1
        have hz := H3.out
        clear H3
        by_cases c5 : Cs.length < 1000000
        case neg => rw [if_neg c5] at hz; cases hz
        rw [if_pos c5] at hz
        have LM := Aside0.mk c5
        clear c5
        obtain ⟨⟨x5, at5, bad5⟩, hh5, hz⟩ := Option.bind_eq_some_iff.1 hz
        simp only at hh5 hz
        have T5 := Aside0.mk hh5
        have rr2 : wr.cell? ⟨gR, 2, none⟩ = some (.int .i64 bad) := (blk_cell BR.out 2).trans rfl
        have b0 : wr.cell? ⟨gN, 0, none⟩ = some (.bool false) := (blk_cell BN.out 0).trans rfl
        go_upto_region 15 with fail
        clear rr2 b0
        refine start_ (n := 8) (S := fun w' => w'.cell? ⟨gN, 3, none⟩ = some (u3)) (ds := [7]) #[false, false, false, false, false, false, false, false] (by kernel_rfl) rfl rfl (((blk_cell (blk_drew BN.out) 3).trans rfl)) (fun hHeld => ?_)
        refine pure_ (i := 0) (N := some 70) (v := ?_) (a' := ?_) #[true, false, false, false, false, false, false, false] rfl rfl (by kernel_rfl) (fun _ _ _ h => h) (Or.inl ⟨by rfl, ?_⟩) ?_ ?_
        rotate_left
        · intro w'
          go_simp
          with_reducible rfl
        rotate_left
        · simp only [Act.put, List.setIfInBounds_toArray, List.set_cons_zero, List.set_cons_succ, i64_w, i32_w]
          rfl
        refine pure_ (i := 2) (N := some 72) (v := ?_) (a' := ?_) #[true, false, true, false, false, false, false, false] rfl rfl (by kernel_rfl) (fun _ _ _ h => h) (Or.inl ⟨by rfl, ?_⟩) ?_ ?_
        rotate_left
        · intro w'
          go_simp
          with_reducible rfl
        rotate_left
        · simp only [Act.put, List.setIfInBounds_toArray, List.set_cons_zero, List.set_cons_succ, i64_w, i32_w]
          rfl
        refine take_ (i := 1) (N := some 71) (v := ?_) (a' := ?_) #[true, true, true, false, false, false, false, false] rfl rfl (by kernel_rfl) (fun _ _ _ h => h) (Or.inl ⟨by rfl, ?_⟩) hHeld ?_ ?_
        rotate_left
        · intro w' s0
          go_simp
          with_reducible rfl
        rotate_left
        · simp only [Act.put, List.setIfInBounds_toArray, List.set_cons_zero, List.set_cons_succ, i64_w, i32_w]
          rfl
        refine one_ (i := 3) (N := some 73) #[true, true, true, true, false, false, false, false] rfl rfl (by kernel_rfl) (by decide) (fun K hK => ?_)
        refine goes_ Try.func39 (by kernel_rfl) rfl #[.pointer (some ⟨gR, 0, none⟩), .int .i64 2] (by rfl) rfl rfl (by simp only [List.map_toArray, List.map_cons, List.map_nil]; rfl) ?_
        with_reducible refine (number_calls gR s at_ bad 2 x5 at5 bad5 T5.out _ (by (with_reducible repeat (first | refine blk_drewN ?_ _ | refine blk_drew ?_ | refine blk_alloc ?_ _)); exact BR.out) w (by repeat (first | (with_reducible first | exact HB.out | apply below_alloc | apply pw_below_drewN | apply below_drew1 | refine below_set ?_ GA.out | refine below_set ?_ GN.out | refine below_set ?_ GR.out) | exact HB.out)) GR.out).mono ?_
        rintro e w155 ⟨rfl, hb4, hk, hb⟩
        refine ⟨_, rfl, ?_⟩
        have X1 := Aside0.mk (KeepBut.blk (o := .cells #[.bool false, .slice none 0 0, .slice none 0 0, .slice none 0 0] 25 (0, 0)) hk (by (with_reducible repeat (first | refine blk_drewN ?_ _ | refine blk_drew ?_ | refine blk_alloc ?_ _)); exact BA.out) NAR.out (by simp))
        have X2 := Aside0.mk (KeepBut.blk (o := .cells #[.bool false, u1, u2, u3] 25 (0, 0)) hk (by (with_reducible repeat (first | refine blk_drewN ?_ _ | refine blk_drew ?_ | refine blk_alloc ?_ _)); exact BN.out) NNR.out (by simp))
        have X3 := Aside0.mk hb4
        have XHK := Aside0.mk (Kd.R_mono (Kd.R_keep (Kd.R_types (by (with_reducible repeat (first | apply Kd.R_alloc | apply Kd.R_drewN | apply Kd.R_drew)); exact HK.out) (by (with_reducible repeat (first | refine blk_drewN ?_ _ | refine blk_drew ?_ | refine blk_alloc ?_ _)); exact BR.out) (by decide)) hk (fun _ h => h.2)) (fun _ h => h.1))
        have XHV := Aside0.mk (Kd.R_mono (Kd.R_keep (Kd.R_types (by (with_reducible repeat (first | apply Kd.R_alloc | apply Kd.R_drewN | apply Kd.R_drew)); exact HV.out) (by (with_reducible repeat (first | refine blk_drewN ?_ _ | refine blk_drew ?_ | refine blk_alloc ?_ _)); exact BR.out) (by decide)) hk (fun _ h => h.2)) (fun _ h => h.1))
        have XHC := Aside0.mk (Kd.R_mono (Kd.R_keep (Kd.R_types (by (with_reducible repeat (first | apply Kd.R_alloc | apply Kd.R_drewN | apply Kd.R_drew)); exact HC.out) (by (with_reducible repeat (first | refine blk_drewN ?_ _ | refine blk_drew ?_ | refine blk_alloc ?_ _)); exact BR.out) (by decide)) hk (fun _ h => h.2)) (fun _ h => h.1))
        have XB := Aside0.mk hb
        clear hb4 hk hb
        clear BA BN BR HK HV HC HB
        have BA := X1
        have BN := X2
        have BR := X3
        have HK := XHK
        have HV := XHV
        have HC := XHC
        have HB := XB
        clear X1 X2 X3 XHK XHV XHC XB
        refine hK.out _ _ (((blk_cell BN.out 3).trans rfl)) (fun hHeld => ?_)
        clear hK K
        refine norm_ (a' := ?_) ?_ ?_
        rotate_left
        · show Act.put _ (some 73) _ = _
          simp only [Act.put, List.setIfInBounds_toArray, List.set_cons_zero, List.set_cons_succ, i64_w, i32_w]
          rfl
        refine one_ (i := 4) (N := some 74) #[true, true, true, true, true, false, false, false] rfl rfl (by kernel_rfl) (by decide) (fun K hK => ?_)
        refine value_ (w1 := ?_) (v := ?_) (by rfl) rfl ?_ ?_
        rotate_left 2
        · go_simp
          constructor
          · rfl
          · rfl
        refine hK.out _ _ (((blk_cell (blk_alloc BN.out _) 3).trans rfl)) (fun hHeld => ?_)
        clear hK K
        refine norm_ (a' := ?_) ?_ ?_
        rotate_left
        · show Act.put _ (some 74) _ = _
          simp only [Act.put, List.setIfInBounds_toArray, List.set_cons_zero, List.set_cons_succ, i64_w, i32_w]
          rfl
        refine one_ (i := 5) (N := some 75) #[true, true, true, true, true, true, false, false] rfl rfl (by kernel_rfl) (by decide) (fun K hK => ?_)
        refine Kd.R_append_step (Kd.int .i64) (w0 := w) w.heap.size (by rfl) (.tmp 71) (.tmp 74) 23 3 (.int .i64 0) 8 rfl Try.underlying23 inf3 rfl (by decide) (by omega) u3 (Cs) x5 [.int .i64 x5] (fun _ => True) (fun _ => False) rfl rfl ?aP (fun _ hk => hk.elim) ?aF ?aO ?aB ?aS ?aL ?_
        case aP => exact rfl
        case aB => exact (by repeat (first | (with_reducible first | exact HB.out | apply below_alloc | apply pw_below_drewN | apply below_drew1 | refine below_set ?_ GA.out | refine below_set ?_ GN.out | refine below_set ?_ GR.out) | exact HB.out))
        case aF => exact (fun _ _ => trivial)
        case aO => exact (by (with_reducible repeat (first | apply Kd.R_alloc | apply Kd.R_drewN | apply Kd.R_drew)); exact HC.out)
        case aS => exact (below_size (by repeat (first | (with_reducible first | exact HB.out | apply below_alloc | apply pw_below_drewN | apply below_drew1 | refine below_set ?_ GA.out | refine below_set ?_ GN.out | refine below_set ?_ GR.out) | exact HB.out)))
        case aL => (have := LM.out; first | omega | (simp only [List.length_append, List.length_singleton]; omega))
        intro y_ w156 ho hb hg hat
        obtain ⟨Ay5, ny5, cy5, ey⟩ : ∃ A n c, y_ = .slice A n c := (Kd.R_slice ho).elim fun A h => h.elim fun c h => ⟨A, _, c, h⟩
        subst ey
        have XHK := Aside0.mk (Kd.R_over' (by (with_reducible repeat (first | apply Kd.R_alloc | apply Kd.R_drewN | apply Kd.R_drew)); exact HK.out) (Kd.R_typed (by (with_reducible repeat (first | apply Kd.R_alloc | apply Kd.R_drewN | apply Kd.R_drew)); exact HC.out)) (by decide) hg)
        have XHV := Aside0.mk (Kd.R_over' (by (with_reducible repeat (first | apply Kd.R_alloc | apply Kd.R_drewN | apply Kd.R_drew)); exact HV.out) (Kd.R_typed (by (with_reducible repeat (first | apply Kd.R_alloc | apply Kd.R_drewN | apply Kd.R_drew)); exact HC.out)) (by decide) hg)
        have X1 := Aside0.mk (blk_grown (g := gA) (o := .cells #[.bool false, .slice none 0 0, .slice none 0 0, .slice none 0 0] 25 (0, 0)) (by (with_reducible repeat (first | refine blk_drewN ?_ _ | refine blk_drew ?_ | refine blk_alloc ?_ _)); exact BA.out) hg (Kd.R_ne HC.out BA.out (by decide)))
        have X2 := Aside0.mk (blk_grown (g := gN) (o := .cells #[.bool false, u1, u2, u3] 25 (0, 0)) (by (with_reducible repeat (first | refine blk_drewN ?_ _ | refine blk_drew ?_ | refine blk_alloc ?_ _)); exact BN.out) hg (Kd.R_ne HC.out BN.out (by decide)))
        have X3 := Aside0.mk (blk_grown (g := gR) (o := .cells #[.string s, .int .i64 at5, .int .i64 bad5] 62 (0, 0)) (by (with_reducible repeat (first | refine blk_drewN ?_ _ | refine blk_drew ?_ | refine blk_alloc ?_ _)); exact BR.out) hg (Kd.R_ne HC.out BR.out (by decide)))
        have XB := Aside0.mk hb
        have XO := Aside0.mk ho
        clear ho hb hg hat
        clear BA BN BR HC HB HK HV
        have BA := X1
        have BN := X2
        have BR := X3
        have HC := XO
        have HB := XB
        have HK := XHK
        have HV := XHV
        clear X1 X2 X3 XO XB XHK XHV
        refine hK.out _ _ (((blk_cell BN.out 3).trans rfl)) (fun hHeld => ?_)
        clear hK K
        refine norm_ (a' := ?_) ?_ ?_
        rotate_left
        · show Act.put _ (some 75) _ = _
          simp only [Act.put, List.setIfInBounds_toArray, List.set_cons_zero, List.set_cons_succ, i64_w, i32_w]
          rfl
        refine pure_ (i := 6) (N := some 76) (v := ?_) (a' := ?_) #[true, true, true, true, true, true, true, false] rfl rfl (by kernel_rfl) (fun _ _ _ h => h) (Or.inl ⟨by rfl, ?_⟩) ?_ ?_
        rotate_left
        · intro w'
          go_simp
          with_reducible rfl
        rotate_left
        · simp only [Act.put, List.setIfInBounds_toArray, List.set_cons_zero, List.set_cons_succ, i64_w, i32_w]
          rfl
        refine last_ (i := 7) (N := none) #[true, true, true, true, true, true, true, true] rfl rfl (by kernel_rfl) (by decide) (fun K hK => ?_)
        have cS : w156.cell? ⟨gN, 3, none⟩ = some (u3) := (blk_cell BN.out 3).trans rfl
        have fS := blk_frozen BN.out 3
        refine skip_ (w1 := ?_) (by rfl) rfl ?_ ?_
        rotate_left
        · go_simp
          rfl
        refine hK.out _ _ ?_
        clear hK K
        refine done_ (by kernel_rfl) ?_
        have X2 := Aside0.mk (show (w156.setCell ⟨gN, 3, none⟩ (.slice Ay5 ny5 cy5)).heap[gN]? = some (.cells #[.bool false, u1, u2, (.slice Ay5 ny5 cy5)] 25 (0, 0)) from blk_put (cs := #[.bool false, u1, u2, u3]) BN.out 3 _ rfl)
        have X1 := Aside0.mk (show (w156.setCell ⟨gN, 3, none⟩ (.slice Ay5 ny5 cy5)).heap[gA]? = some (.cells #[.bool false, .slice none 0 0, .slice none 0 0, .slice none 0 0] 25 (0, 0)) from blk_far BA.out NAN.out _)
        have X3 := Aside0.mk (show (w156.setCell ⟨gN, 3, none⟩ (.slice Ay5 ny5 cy5)).heap[gR]? = some (.cells #[.string s, .int .i64 at5, .int .i64 bad5] 62 (0, 0)) from blk_far BR.out NRN.out _)
        have XHK := Aside0.mk (Kd.R_mono (Kd.R_far (p := ⟨gN, 3, none⟩) (Kd.R_types HK.out BN.out (by decide)) (fun _ h => h.2) (.slice Ay5 ny5 cy5)) (fun _ h => h.1))
        have XHV := Aside0.mk (Kd.R_mono (Kd.R_far (p := ⟨gN, 3, none⟩) (Kd.R_types HV.out BN.out (by decide)) (fun _ h => h.2) (.slice Ay5 ny5 cy5)) (fun _ h => h.1))
        have XHC := Aside0.mk (Kd.R_mono (Kd.R_far (p := ⟨gN, 3, none⟩) (Kd.R_types HC.out BN.out (by decide)) (fun _ h => h.2) (.slice Ay5 ny5 cy5)) (fun _ h => h.1))
        have XB := Aside0.mk (show Below w.heap.size w (w156.setCell ⟨gN, 3, none⟩ (.slice Ay5 ny5 cy5)) from below_set HB.out GN.out)
        clear cS fS
        clear BA BN BR HK HV HC HB
        have BA := X1
        have BN := X2
        have BR := X3
        have HK := XHK
        have HV := XHV
        have HC := XHC
        have HB := XB
        clear X1 X2 X3 XHK XHV XHC XB
        generalize w156.setCell ⟨gN, 3, none⟩ (.slice Ay5 ny5 cy5) = w157 at *
        clear hh5 T5
        generalize Cs ++ [x5] = C5 at *
        generalize hu5 : (.slice Ay5 ny5 cy5 : Value) = u5 at *
        obtain ⟨A1, cc1, rfl⟩ := Kd.R_slice HK.out
        obtain ⟨A2, cc2, rfl⟩ := Kd.R_slice HV.out
        obtain ⟨A3, cc3, eu5⟩ := Kd.R_slice HC.out
        subst eu5
        clear hu5
        unfold endG at hz
        have hn1 := NAR.out
        have hn2 := NRA.out
        have hn3 := NAN.out
        have hn4 := NNA.out
        have a0 : w157.cell? ⟨gA, 0, none⟩ = some (.bool false) := (blk_cell BA.out 0).trans rfl
        have a1 : w157.cell? ⟨gA, 1, none⟩ = some (.slice none 0 0) := (blk_cell BA.out 1).trans rfl
        have a2 : w157.cell? ⟨gA, 2, none⟩ = some (.slice none 0 0) := (blk_cell BA.out 2).trans rfl
        have a3 : w157.cell? ⟨gA, 3, none⟩ = some (.slice none 0 0) := (blk_cell BA.out 3).trans rfl
        have af0 := blk_frozen BA.out 0
        have af1 := blk_frozen BA.out 1
        have af2 := blk_frozen BA.out 2
        have af3 := blk_frozen BA.out 3
        have b0 : w157.cell? ⟨gN, 0, none⟩ = some (.bool false) := (blk_cell BN.out 0).trans rfl
        have b1 : w157.cell? ⟨gN, 1, none⟩ = some ((.slice A1 Ks.length cc1)) := (blk_cell BN.out 1).trans rfl
        have b2 : w157.cell? ⟨gN, 2, none⟩ = some ((.slice A2 Vs.length cc2)) := (blk_cell BN.out 2).trans rfl
        have b3 : w157.cell? ⟨gN, 3, none⟩ = some ((.slice A3 C5.length cc3)) := (blk_cell BN.out 3).trans rfl
        have rr0 : w157.cell? ⟨gR, 0, none⟩ = some (.string s) := (blk_cell BR.out 0).trans rfl
        have rr1 : w157.cell? ⟨gR, 1, none⟩ = some (.int .i64 at5) := (blk_cell BR.out 1).trans rfl
        have rr2 : w157.cell? ⟨gR, 2, none⟩ = some (.int .i64 bad5) := (blk_cell BR.out 2).trans rfl
        by_cases e1 : bad5 = 0
        case neg =>
          have e1b : (bad5 != 0) = true := bne_iff_ne.mpr e1
          rw [if_neg e1] at hz
          simp only [Option.some.injEq, Prod.mk.injEq] at hz
          obtain ⟨rfl, rfl, rfl, rfl, rfl⟩ := hz
          go_wp2_with fail
          go_region
          go_wp2_with fail
          refine bodyPost_ret (results_ct rfl _ _ gA 25 #[.bool false, .slice none 0 0, .slice none 0 0, .slice none 0 0] (0, 0) _ rfl (by (with_reducible repeat (first | refine blk_drewN ?_ _ | refine blk_drew ?_ | refine blk_alloc ?_ _)); refine blk_put (cs := #[.bool false, .slice none 0 0, .slice none 0 0, .slice none 0 0]) ?_ 3 _ rfl; (with_reducible repeat (first | refine blk_drewN ?_ _ | refine blk_drew ?_ | refine blk_alloc ?_ _)); refine blk_put (cs := #[.bool false, .slice none 0 0, .slice none 0 0, .slice none 0 0]) ?_ 2 _ rfl; (with_reducible repeat (first | refine blk_drewN ?_ _ | refine blk_drew ?_ | refine blk_alloc ?_ _)); refine blk_put (cs := #[.bool false, .slice none 0 0, .slice none 0 0, .slice none 0 0]) ?_ 1 _ rfl; (with_reducible repeat (first | refine blk_drewN ?_ _ | refine blk_drew ?_ | refine blk_alloc ?_ _)); refine blk_put (cs := #[.bool false, .slice none 0 0, .slice none 0 0, .slice none 0 0]) ?_ 0 _ rfl; (with_reducible repeat (first | refine blk_drewN ?_ _ | refine blk_drew ?_ | refine blk_alloc ?_ _)); exact BA.out) Try.underlying25 rfl (by kernel_rfl)) rfl ?_
          exact ⟨_, _, _, rfl, Kd.R_nil _ _ _ _ _, Kd.R_nil _ _ _ _ _, Kd.R_nil _ _ _ _ _, (by repeat (first | (with_reducible first | exact HB.out | apply below_alloc | apply pw_below_drewN | apply below_drew1 | refine below_set ?_ GA.out | refine below_set ?_ GN.out | refine below_set ?_ GR.out) | exact HB.out))⟩
        rw [if_pos e1] at hz
        subst e1
        by_cases e2 : at5 = (s.size : Int)
        case neg =>
          have e2b : (at5 != (s.size : Int)) = true := bne_iff_ne.mpr e2
          rw [if_neg e2] at hz
          simp only [Option.some.injEq, Prod.mk.injEq] at hz
          obtain ⟨rfl, rfl, rfl, rfl, rfl⟩ := hz
          go_wp2_with fail
          refine bodyPost_ret (results_ct rfl _ _ gA 25 #[.bool false, .slice none 0 0, .slice none 0 0, .slice none 0 0] (0, 0) _ rfl (by (with_reducible repeat (first | refine blk_drewN ?_ _ | refine blk_drew ?_ | refine blk_alloc ?_ _)); refine blk_put (cs := #[.bool false, .slice none 0 0, .slice none 0 0, .slice none 0 0]) ?_ 3 _ rfl; (with_reducible repeat (first | refine blk_drewN ?_ _ | refine blk_drew ?_ | refine blk_alloc ?_ _)); refine blk_put (cs := #[.bool false, .slice none 0 0, .slice none 0 0, .slice none 0 0]) ?_ 2 _ rfl; (with_reducible repeat (first | refine blk_drewN ?_ _ | refine blk_drew ?_ | refine blk_alloc ?_ _)); refine blk_put (cs := #[.bool false, .slice none 0 0, .slice none 0 0, .slice none 0 0]) ?_ 1 _ rfl; (with_reducible repeat (first | refine blk_drewN ?_ _ | refine blk_drew ?_ | refine blk_alloc ?_ _)); refine blk_put (cs := #[.bool false, .slice none 0 0, .slice none 0 0, .slice none 0 0]) ?_ 0 _ rfl; (with_reducible repeat (first | refine blk_drewN ?_ _ | refine blk_drew ?_ | refine blk_alloc ?_ _)); exact BA.out) Try.underlying25 rfl (by kernel_rfl)) rfl ?_
          exact ⟨_, _, _, rfl, Kd.R_nil _ _ _ _ _, Kd.R_nil _ _ _ _ _, Kd.R_nil _ _ _ _ _, (by repeat (first | (with_reducible first | exact HB.out | apply below_alloc | apply pw_below_drewN | apply below_drew1 | refine below_set ?_ GA.out | refine below_set ?_ GN.out | refine below_set ?_ GR.out) | exact HB.out))⟩
        rw [if_pos e2] at hz
        subst e2
        obtain ⟨bb, hbb, hz⟩ := Option.bind_eq_some_iff.1 hz
        have R1 := Aside0.mk hbb
        clear hbb
        cases bb
        case false =>
          rw [if_neg (by simp)] at hz
          simp only [Option.some.injEq, Prod.mk.injEq] at hz
          obtain ⟨rfl, rfl, rfl, rfl, rfl⟩ := hz
          go_wp2_with (go_at_call 14; refine (P.node_Right.calls k false A1 cc1 Ks A2 cc2 Vs A3 cc3 C5 true _ _ (by repeat (first | exact (Kd.R_reads' HK.out).2.2 | (with_reducible refine Kd.C_alloc ?_ _) | (with_reducible refine Kd.C_drewN ?_ _) | (with_reducible refine Kd.C_drew ?_))) (Kd.R_reads' HK.out).2.1 (by repeat (first | exact (Kd.R_reads' HV.out).2.2 | (with_reducible refine Kd.C_alloc ?_ _) | (with_reducible refine Kd.C_drewN ?_ _) | (with_reducible refine Kd.C_drew ?_))) (Kd.R_reads' HV.out).2.1 (by repeat (first | exact (Kd.R_reads' HC.out).2.2 | (with_reducible refine Kd.C_alloc ?_ _) | (with_reducible refine Kd.C_drewN ?_ _) | (with_reducible refine Kd.C_drew ?_))) (Kd.R_reads' HC.out).2.1 R1.out).mono ?_; rintro e w8 ⟨rfl, hb⟩; have X1 := Aside0.mk (blk_below (o := .cells #[.bool false, .slice none 0 0, .slice none 0 0, .slice none 0 0] 25 (0, 0)) (by (with_reducible repeat (first | refine blk_drewN ?_ _ | refine blk_drew ?_ | refine blk_alloc ?_ _)); exact BA.out) hb); have X2 := Aside0.mk (blk_below (o := .cells #[.bool false, (.slice A1 Ks.length cc1), (.slice A2 Vs.length cc2), (.slice A3 C5.length cc3)] 25 (0, 0)) (by (with_reducible repeat (first | refine blk_drewN ?_ _ | refine blk_drew ?_ | refine blk_alloc ?_ _)); exact BN.out) hb); have XHK := Aside0.mk (Kd.R_below (by (with_reducible repeat (first | apply Kd.R_alloc | apply Kd.R_drewN | apply Kd.R_drew)); exact HK.out) hb); have XHV := Aside0.mk (Kd.R_below (by (with_reducible repeat (first | apply Kd.R_alloc | apply Kd.R_drewN | apply Kd.R_drew)); exact HV.out) hb); have XHC := Aside0.mk (Kd.R_below (by (with_reducible repeat (first | apply Kd.R_alloc | apply Kd.R_drewN | apply Kd.R_drew)); exact HC.out) hb); have XB := Aside0.mk (below_step (by repeat (first | (with_reducible first | exact HB.out | apply below_alloc | apply pw_below_drewN | apply below_drew1 | refine below_set ?_ GA.out | refine below_set ?_ GN.out | refine below_set ?_ GR.out) | exact HB.out)) hb); clear hb; clear BA BN HK HV HC HB; have BA := X1; have BN := X2; have HK := XHK; have HV := XHV; have HC := XHC; have HB := XB; clear X1 X2 XHK XHV XHC XB; have a0 : w8.cell? ⟨gA, 0, none⟩ = some (.bool false) := (blk_cell BA.out 0).trans rfl; have a1 : w8.cell? ⟨gA, 1, none⟩ = some (.slice none 0 0) := (blk_cell BA.out 1).trans rfl; have a2 : w8.cell? ⟨gA, 2, none⟩ = some (.slice none 0 0) := (blk_cell BA.out 2).trans rfl; have a3 : w8.cell? ⟨gA, 3, none⟩ = some (.slice none 0 0) := (blk_cell BA.out 3).trans rfl; have af0 := blk_frozen BA.out 0; have af1 := blk_frozen BA.out 1; have af2 := blk_frozen BA.out 2; have af3 := blk_frozen BA.out 3; have b0 : w8.cell? ⟨gN, 0, none⟩ = some (.bool false) := (blk_cell BN.out 0).trans rfl; have b1 : w8.cell? ⟨gN, 1, none⟩ = some ((.slice A1 Ks.length cc1)) := (blk_cell BN.out 1).trans rfl; have b2 : w8.cell? ⟨gN, 2, none⟩ = some ((.slice A2 Vs.length cc2)) := (blk_cell BN.out 2).trans rfl; have b3 : w8.cell? ⟨gN, 3, none⟩ = some ((.slice A3 C5.length cc3)) := (blk_cell BN.out 3).trans rfl)
          refine bodyPost_ret (results_ct rfl _ _ gA 25 #[.bool false, .slice none 0 0, .slice none 0 0, .slice none 0 0] (0, 0) _ rfl (by (with_reducible repeat (first | refine blk_drewN ?_ _ | refine blk_drew ?_ | refine blk_alloc ?_ _)); refine blk_put (cs := #[.bool false, .slice none 0 0, .slice none 0 0, .slice none 0 0]) ?_ 3 _ rfl; (with_reducible repeat (first | refine blk_drewN ?_ _ | refine blk_drew ?_ | refine blk_alloc ?_ _)); refine blk_put (cs := #[.bool false, .slice none 0 0, .slice none 0 0, .slice none 0 0]) ?_ 2 _ rfl; (with_reducible repeat (first | refine blk_drewN ?_ _ | refine blk_drew ?_ | refine blk_alloc ?_ _)); refine blk_put (cs := #[.bool false, .slice none 0 0, .slice none 0 0, .slice none 0 0]) ?_ 1 _ rfl; (with_reducible repeat (first | refine blk_drewN ?_ _ | refine blk_drew ?_ | refine blk_alloc ?_ _)); refine blk_put (cs := #[.bool false, .slice none 0 0, .slice none 0 0, .slice none 0 0]) ?_ 0 _ rfl; (with_reducible repeat (first | refine blk_drewN ?_ _ | refine blk_drew ?_ | refine blk_alloc ?_ _)); exact BA.out) Try.underlying25 rfl (by kernel_rfl)) rfl ?_
          exact ⟨_, _, _, rfl, Kd.R_nil _ _ _ _ _, Kd.R_nil _ _ _ _ _, Kd.R_nil _ _ _ _ _, (by repeat (first | (with_reducible first | exact HB.out | apply below_alloc | apply pw_below_drewN | apply below_drew1 | refine below_set ?_ GA.out | refine below_set ?_ GN.out | refine below_set ?_ GR.out) | exact HB.out))⟩
        rw [if_pos rfl] at hz
        simp only [Option.some.injEq, Prod.mk.injEq] at hz
        obtain ⟨rfl, rfl, rfl, rfl, rfl⟩ := hz
        go_wp2_with (go_at_call 14; refine (P.node_Right.calls k false A1 cc1 Ks A2 cc2 Vs A3 cc3 C5 true _ _ (by repeat (first | exact (Kd.R_reads' HK.out).2.2 | (with_reducible refine Kd.C_alloc ?_ _) | (with_reducible refine Kd.C_drewN ?_ _) | (with_reducible refine Kd.C_drew ?_))) (Kd.R_reads' HK.out).2.1 (by repeat (first | exact (Kd.R_reads' HV.out).2.2 | (with_reducible refine Kd.C_alloc ?_ _) | (with_reducible refine Kd.C_drewN ?_ _) | (with_reducible refine Kd.C_drew ?_))) (Kd.R_reads' HV.out).2.1 (by repeat (first | exact (Kd.R_reads' HC.out).2.2 | (with_reducible refine Kd.C_alloc ?_ _) | (with_reducible refine Kd.C_drewN ?_ _) | (with_reducible refine Kd.C_drew ?_))) (Kd.R_reads' HC.out).2.1 R1.out).mono ?_; rintro e w8 ⟨rfl, hb⟩; have X1 := Aside0.mk (blk_below (o := .cells #[.bool false, .slice none 0 0, .slice none 0 0, .slice none 0 0] 25 (0, 0)) (by (with_reducible repeat (first | refine blk_drewN ?_ _ | refine blk_drew ?_ | refine blk_alloc ?_ _)); exact BA.out) hb); have X2 := Aside0.mk (blk_below (o := .cells #[.bool false, (.slice A1 Ks.length cc1), (.slice A2 Vs.length cc2), (.slice A3 C5.length cc3)] 25 (0, 0)) (by (with_reducible repeat (first | refine blk_drewN ?_ _ | refine blk_drew ?_ | refine blk_alloc ?_ _)); exact BN.out) hb); have XHK := Aside0.mk (Kd.R_below (by (with_reducible repeat (first | apply Kd.R_alloc | apply Kd.R_drewN | apply Kd.R_drew)); exact HK.out) hb); have XHV := Aside0.mk (Kd.R_below (by (with_reducible repeat (first | apply Kd.R_alloc | apply Kd.R_drewN | apply Kd.R_drew)); exact HV.out) hb); have XHC := Aside0.mk (Kd.R_below (by (with_reducible repeat (first | apply Kd.R_alloc | apply Kd.R_drewN | apply Kd.R_drew)); exact HC.out) hb); have XB := Aside0.mk (below_step (by repeat (first | (with_reducible first | exact HB.out | apply below_alloc | apply pw_below_drewN | apply below_drew1 | refine below_set ?_ GA.out | refine below_set ?_ GN.out | refine below_set ?_ GR.out) | exact HB.out)) hb); clear hb; clear BA BN HK HV HC HB; have BA := X1; have BN := X2; have HK := XHK; have HV := XHV; have HC := XHC; have HB := XB; clear X1 X2 XHK XHV XHC XB; have a0 : w8.cell? ⟨gA, 0, none⟩ = some (.bool false) := (blk_cell BA.out 0).trans rfl; have a1 : w8.cell? ⟨gA, 1, none⟩ = some (.slice none 0 0) := (blk_cell BA.out 1).trans rfl; have a2 : w8.cell? ⟨gA, 2, none⟩ = some (.slice none 0 0) := (blk_cell BA.out 2).trans rfl; have a3 : w8.cell? ⟨gA, 3, none⟩ = some (.slice none 0 0) := (blk_cell BA.out 3).trans rfl; have af0 := blk_frozen BA.out 0; have af1 := blk_frozen BA.out 1; have af2 := blk_frozen BA.out 2; have af3 := blk_frozen BA.out 3; have b0 : w8.cell? ⟨gN, 0, none⟩ = some (.bool false) := (blk_cell BN.out 0).trans rfl; have b1 : w8.cell? ⟨gN, 1, none⟩ = some ((.slice A1 Ks.length cc1)) := (blk_cell BN.out 1).trans rfl; have b2 : w8.cell? ⟨gN, 2, none⟩ = some ((.slice A2 Vs.length cc2)) := (blk_cell BN.out 2).trans rfl; have b3 : w8.cell? ⟨gN, 3, none⟩ = some ((.slice A3 C5.length cc3)) := (blk_cell BN.out 3).trans rfl)
        refine bodyPost_ret (results_ct rfl _ _ gA 25 #[.bool false, (.slice A1 Ks.length cc1), (.slice A2 Vs.length cc2), (.slice A3 C5.length cc3)] (0, 0) _ rfl (by (with_reducible repeat (first | refine blk_drewN ?_ _ | refine blk_drew ?_ | refine blk_alloc ?_ _)); refine blk_put (cs := #[.bool false, (.slice A1 Ks.length cc1), (.slice A2 Vs.length cc2), .slice none 0 0]) ?_ 3 _ rfl; (with_reducible repeat (first | refine blk_drewN ?_ _ | refine blk_drew ?_ | refine blk_alloc ?_ _)); refine blk_put (cs := #[.bool false, (.slice A1 Ks.length cc1), .slice none 0 0, .slice none 0 0]) ?_ 2 _ rfl; (with_reducible repeat (first | refine blk_drewN ?_ _ | refine blk_drew ?_ | refine blk_alloc ?_ _)); refine blk_put (cs := #[.bool false, .slice none 0 0, .slice none 0 0, .slice none 0 0]) ?_ 1 _ rfl; (with_reducible repeat (first | refine blk_drewN ?_ _ | refine blk_drew ?_ | refine blk_alloc ?_ _)); refine blk_put (cs := #[.bool false, .slice none 0 0, .slice none 0 0, .slice none 0 0]) ?_ 0 _ rfl; (with_reducible repeat (first | refine blk_drewN ?_ _ | refine blk_drew ?_ | refine blk_alloc ?_ _)); exact BA.out) Try.underlying25 rfl (by kernel_rfl)) rfl ?_
        exact ⟨_, _, _, rfl, (by refine Kd.R_mono (Kd.R_keep (Kd.R_types HK.out BA.out (by decide)) ?_ (fun _ h => h.2)) (fun _ h => h.1); repeat (first | exact KeepBut.refl _ _ _ | refine KeepBut.set_ ?_ _ _ | refine keep_drewN ?_ _)), (by refine Kd.R_mono (Kd.R_keep (Kd.R_types HV.out BA.out (by decide)) ?_ (fun _ h => h.2)) (fun _ h => h.1); repeat (first | exact KeepBut.refl _ _ _ | refine KeepBut.set_ ?_ _ _ | refine keep_drewN ?_ _)), (by refine Kd.R_mono (Kd.R_keep (Kd.R_types HC.out BA.out (by decide)) ?_ (fun _ h => h.2)) (fun _ h => h.1); repeat (first | exact KeepBut.refl _ _ _ | refine KeepBut.set_ ?_ _ _ | refine keep_drewN ?_ _)), (by repeat (first | (with_reducible first | exact HB.out | apply below_alloc | apply pw_below_drewN | apply below_drew1 | refine below_set ?_ GA.out | refine below_set ?_ GN.out | refine below_set ?_ GR.out) | exact HB.out))⟩
set_option maxHeartbeats 4000000 in
set_option maxRecDepth 100000 in
theorem get_none (k : Nat) (kind : Int) (hk1 : kind ≠ 1) (hk2 : kind ≠ 2) (s : ByteArray) (w : World) :
    Calls Try.prog 26 #[.int .i64 kind, .string s] w fun e w' => e = .returned (.tuple #[.agg #[.bool false, .slice none 0 0, .slice none 0 0, .slice none 0 0], .int .i64 81]) ∧ Below w.heap.size w w' := by
  have hu25 := Try.underlying25
  have HB := Aside0.mk (Below.refl w.heap.size w)
  have b1 : (kind != 1) = true := bne_iff_ne.mpr hk1
  have b2 : (kind != 2) = true := bne_iff_ne.mpr hk2
  go_enter Try.func26, Try.ntmps26
  go_wp2_with ((with_reducible refine gate_dst (N := 4) rfl ?_); refine box_event ?hg (N := 4) ?hd (cs := #[.bool false, .slice none 0 0, .slice none 0 0, .slice none 0 0]) (t := 25) ?hr ?_; (case hd => rfl); (case hg => rfl); (case hr => first | (go_simp; done) | (go_simp; rfl)); intro gA hg w1 hbox hb; have NB := Aside0.mk (below_step (by repeat (first | (with_reducible first | exact HB.out | apply below_alloc | apply pw_below_drewN | apply below_drew1) | exact HB.out)) hb); have GA := Aside0.mk (show w.heap.size ≤ gA by rw [hg]; exact below_size (by repeat (first | (with_reducible first | exact HB.out | apply below_alloc | apply pw_below_drewN | apply below_drew1) | exact HB.out))); clear HB; have HB := NB; have BA := Aside0.mk hbox; clear NB hb hbox hg; have a0 : w1.cell? ⟨gA, 0, none⟩ = some (.bool false) := (blk_cell BA.out 0).trans rfl; have a1 : w1.cell? ⟨gA, 1, none⟩ = some (.slice none 0 0) := (blk_cell BA.out 1).trans rfl; have a2 : w1.cell? ⟨gA, 2, none⟩ = some (.slice none 0 0) := (blk_cell BA.out 2).trans rfl; have a3 : w1.cell? ⟨gA, 3, none⟩ = some (.slice none 0 0) := (blk_cell BA.out 3).trans rfl; have af0 := blk_frozen BA.out 0; have af1 := blk_frozen BA.out 1; have af2 := blk_frozen BA.out 2; have af3 := blk_frozen BA.out 3)
  refine bodyPost_ret (results_ct rfl _ _ gA 25 #[.bool false, .slice none 0 0, .slice none 0 0, .slice none 0 0] (0, 0) _ rfl (by (with_reducible repeat (first | refine blk_drewN ?_ _ | refine blk_drew ?_ | refine blk_alloc ?_ _)); refine blk_put (cs := #[.bool false, .slice none 0 0, .slice none 0 0, .slice none 0 0]) ?_ 3 _ rfl; (with_reducible repeat (first | refine blk_drewN ?_ _ | refine blk_drew ?_ | refine blk_alloc ?_ _)); refine blk_put (cs := #[.bool false, .slice none 0 0, .slice none 0 0, .slice none 0 0]) ?_ 2 _ rfl; (with_reducible repeat (first | refine blk_drewN ?_ _ | refine blk_drew ?_ | refine blk_alloc ?_ _)); refine blk_put (cs := #[.bool false, .slice none 0 0, .slice none 0 0, .slice none 0 0]) ?_ 1 _ rfl; (with_reducible repeat (first | refine blk_drewN ?_ _ | refine blk_drew ?_ | refine blk_alloc ?_ _)); refine blk_put (cs := #[.bool false, .slice none 0 0, .slice none 0 0, .slice none 0 0]) ?_ 0 _ rfl; (with_reducible repeat (first | refine blk_drewN ?_ _ | refine blk_drew ?_ | refine blk_alloc ?_ _)); exact BA.out) Try.underlying25 rfl (by kernel_rfl)) rfl ?_
  exact ⟨rfl, (by repeat (first | (with_reducible first | exact HB.out | apply below_alloc | apply pw_below_drewN | apply below_drew1 | refine below_set ?_ GA.out) | exact HB.out))⟩
theorem node_Get.calls (k : Nat) (kind : Int) (s : ByteArray) (r1 : Bool) (r2 r3 : List ByteArray) (r4 : List Int) (r5 : Int) (w : World) (h : node_Get.f k kind s = some (r1, r2, r3, r4, r5)) :
    Calls Try.prog 26 #[.int .i64 kind, .string s] w fun e w' => ∃ v1_ v2_ v3_ : Value, e = .returned (.tuple #[.agg #[.bool r1, v1_, v2_, v3_], .int .i64 r5]) ∧ Kd.R Kd.string 9 w' w.heap.size (fun k_ => some k_ ≠ (v2_ : Value).ownBlock) v1_ r2 ∧ Kd.R Kd.string 9 w' w.heap.size (fun k_ => some k_ ≠ (v1_ : Value).ownBlock) v2_ r3 ∧ Kd.R (Kd.int .i64) 3 w' w.heap.size (fun _ => True) v3_ r4 ∧ Below w.heap.size w w' := by
  by_cases h1 : kind = 1
  · subst h1; exact get_leaf k s r1 r2 r3 r4 r5 w h
  by_cases h2 : kind = 2
  · subst h2; exact get_kid k s r1 r2 r3 r4 r5 w h
  unfold node_Get.f at h
  rw [if_neg h1, if_neg h2] at h
  simp only [Option.some.injEq, Prod.mk.injEq] at h
  obtain ⟨rfl, rfl, rfl, rfl, rfl⟩ := h
  refine (get_none k kind h1 h2 s w).mono ?_
  rintro e w' ⟨rfl, hb⟩
  exact ⟨_, _, _, rfl, Kd.R_nil _ _ _ _ _, Kd.R_nil _ _ _ _ _, Kd.R_nil _ _ _ _ _, hb⟩
end Go.Proofs.Ytmnkabdaapiikaa
