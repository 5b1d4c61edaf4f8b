/- A graph out of bytes (dag.Get): what the machine's call comes to, as a plain function. -/
import Derived.Test.YtbgmhcefjggpgaaXNext
import Derived.Test.YtbgmhcefjggpgaaXRight
import Derived.Deep.LoopGhost
import Derived.BigRegion
namespace Go.Proofs.Ytbgmhcefjggpgaa
open Go.RowKit Go.Proofs.YtbgmhcefjggpgaaW.PrintWords Go.Proofs.YtbgmhcefjggpgaaW.PrintLast Go.Proofs.YtbgmhcefjggpgaaW.PrintMore
open X (S39 k39 rd_T39 at_T39 z39 k39_mkM)
set_option linter.unusedVariables false
set_option linter.unusedSimpArgs false

section
variable {P : Program} {ops : Array Oper} {Q : Exit → Act → World → Prop}
/-- A call of a function with captured variables, in a region that draws its order, by its contract. -/
theorem goesV_ {oi : Oper} {N : Option Tmp} {a : Act} {w : World} {K : Act → World → Prop} {f : FuncId} {fn : Func} {s : Tmp} {caps : Array Value} {as_ : Array Operand} {ts : Array TypeId} (hf : P.funcs[f]? = some fn) (hname : (fn.name == "runtime.NumGoroutine") = false) (hb : fn.body.isSome = true) (args : Array Value)
    (hw : Region.wanted oi (yielded ops a.tmps) = true) (hN : oi.dst = N) (hop : oi.op = .call { callee := .value (.tmp s), args := as_, argTypes := ts }) (hs : a.eval (.tmp s) = .func (.func f) #[] caps) (hargs : as_.map a.eval ++ caps = args)
    (h : Calls P f args w fun e w' => ∃ v, e = .returned v ∧ K (a.put N v) w') : if Region.wanted oi (yielded ops a.tmps) = true then Oper.wp P oi a w K Q else K (a.put N undef) w := by
  refine call_ f args hw hN ?_ h
  have he := enters_ hf hname hb args w
  unfold execOp
  simp only [hop, resolve, hs]
  simp [Deferred.ofValue, invoke, hargs, he]
end
theorem infG3 : (Try.prog.info? 3).map (fun i => (i.zero, i.size, i.bytes)) = some (some (.int .i64 0), 1, 8) := by kernel_rfl
theorem infG39 : (Try.prog.info? 39).map (fun i => (i.zero, i.size, i.bytes)) = some (some (.agg #[.slice none 0 0, .int .i64 0, .int .i64 0, .int .i64 0]), 4, 48) := by kernel_rfl
section
variable {w w1 : World} {a b g base e ta : Nat} {o : Obj} {ok : Nat → Prop} {v : Value} {α : Type} {d : Kd α} {xs : List α} {ca : Array Value}
theorem keep_blk (hk : ∀ k, k < w.heap.size → k ≠ a → k ≠ b → w1.heap[k]? = w.heap[k]?) (h : w.heap[g]? = some o) (h1 : g ≠ a) (h2 : g ≠ b) : w1.heap[g]? = some o := (hk g (blk_lt h) h1 h2).trans h
theorem keep_S (hk : ∀ k, k < w.heap.size → k ≠ a → k ≠ b → w1.heap[k]? = w.heap[k]?) (h : Kd.S d e w base ok v xs) (hb : w.heap[a]? = some (.cells ca ta (0, 0))) (ht : ∀ q, q ∈ e :: d.E → q ≠ ta) (hok : ∀ k, ok k → k ≠ b) : Kd.S d e w1 base ok v xs :=
  Kd.S_mono (Kd.S_step (Kd.S_types h hb ht) (fun k h_ hlt => hk k hlt h_.2 (hok k h_.1))) (fun _ h => h.1)
theorem keep_R (hk : ∀ k, k < w.heap.size → k ≠ a → k ≠ b → w1.heap[k]? = w.heap[k]?) (h : Kd.R d e w base ok v xs) (hb : w.heap[a]? = some (.cells ca ta (0, 0))) (ht : ∀ q, q ∈ e :: d.E → q ≠ ta) (hok : ∀ k, ok k → k ≠ b) : Kd.R d e w1 base ok v xs :=
  Kd.R_mono (Kd.R_step (Kd.R_types h hb ht) (fun k h_ hlt => hk k hlt h_.2 (hok k h_.1))) (fun _ h => h.1)
end
theorem app_hp {W : World} {base g5 : Nat} {vN : Value} {L : List Int} {d e g : Int} (HN : Kd.R (Kd.int .i64) 3 W base (fun k_ => k_ ≠ g5) vN L) : k39.M W base (fun k_ => some k_ = vN.ownBlock) (⟨L, d, e, g⟩ : S39) [vN, .int .i64 d, .int .i64 e, .int .i64 g] :=
  k39_mkM W base _ ⟨L, d, e, g⟩ (Kd.R_tight rfl HN)
theorem app_hk {W : World} {base g5 g10 : Nat} {vN vT : Value} {L : List Int} {T : List S39} (HN : Kd.R (Kd.int .i64) 3 W base (fun k_ => k_ ≠ g5) vN L) (HT : Kd.S k39 39 W base (fun k_ => (k_ ≠ g5 ∧ k_ ≠ g10) ∧ some k_ ≠ vN.ownBlock) vT T) : ∀ k, some k = vN.ownBlock → k ≠ g5 ∧ some k ≠ vT.ownBlock := by
  intro k hk
  refine ⟨fun he => ?_, Kd.S_away HT (fun j hj => fun he => hj.2 (by rw [he]; exact hk))⟩
  subst he
  exact Kd.R_away HN (fun _ h => h) hk
/-- So many needs. -/
def needsL (s : ByteArray) : Nat → Int → Int → Int → List Int → Option (Int × Int × List Int)
  | 0, _, _, _, _ => none
  | k + 1, c, at_, bad, L => if c > 0 then (if bad = 0 then (if L.length < 1000000 ∧ c < 1000000000000 then (numberF s at_ bad 1).bind fun x => needsL s k (wrap64 (c - 1)) x.2.1 x.2.2 (L ++ [x.1]) else none) else some (at_, bad, L)) else some (at_, bad, L)
/-- So many tasks. -/
def tasksL (s : ByteArray) : Nat → Int → Int → Int → List S39 → Option (Int × Int × List S39)
  | 0, _, _, _, _ => none
  | k + 1, c, at_, bad, T => if c > 0 then (if bad = 0 then (if T.length < 1000000 ∧ c < 1000000000000 then (numberF s at_ bad 1).bind fun a => (needsL s k a.1 a.2.1 a.2.2 []).bind fun b => (numberF s b.1 b.2.1 1).bind fun d => (numberF s d.2.1 d.2.2 3).bind fun e => (numberF s e.2.1 e.2.2 3).bind fun g =>
      tasksL s k (wrap64 (c - 1)) g.2.1 g.2.2 (T ++ [⟨b.2.2, d.1, e.1, g.1⟩]) else none) else some (at_, bad, T)) else some (at_, bad, T)
def dag_Get.f (k : Nat) (s : ByteArray) : Option (ByteArray × List S39 × Int) :=
  (P.code_Cut.f s 0).bind fun c => (numberF s c.2.1 c.2.2 1).bind fun n => (tasksL s k n.1 n.2.1 n.2.2 []).bind fun g => if g.2.1 = 0 then (if g.1 = s.size then (dag_Right.f k c.1 g.2.2).bind fun r => if r = 0 then some (c.1, g.2.2, 0) else some (⟨#[]⟩, [], r) else some (⟨#[]⟩, [], 4)) else some (⟨#[]⟩, [], g.2.1)
theorem needsL_mono (s : ByteArray) : ∀ k c at_ bad L, LeO (needsL s k c at_ bad L) (needsL s (k + 1) c at_ bad L)
  | 0, _, _, _, _ => LeO.none _
  | k + 1, c, at_, bad, L => by
    rw [needsL, needsL]
    exact LeO.ite (LeO.ite (LeO.ite (LeO.bind (LeO.refl _) fun _ => needsL_mono s k _ _ _ _) (LeO.refl _)) (LeO.refl _)) (LeO.refl _)
theorem tasksL_mono (s : ByteArray) : ∀ k c at_ bad T, LeO (tasksL s k c at_ bad T) (tasksL s (k + 1) c at_ bad T)
  | 0, _, _, _, _ => LeO.none _
  | k + 1, c, at_, bad, T => by
    rw [tasksL, tasksL]
    exact LeO.ite (LeO.ite (LeO.ite (LeO.bind (LeO.refl _) fun _ => LeO.bind (needsL_mono s _ _ _ _ _) fun _ => LeO.bind (LeO.refl _) fun _ => LeO.bind (LeO.refl _) fun _ => LeO.bind (LeO.refl _) fun _ => tasksL_mono s k _ _ _ _) (LeO.refl _)) (LeO.refl _)) (LeO.refl _)
theorem dag_Get.mono : ∀ s k, LeO (dag_Get.f k s) (dag_Get.f (k + 1) s) := by
  intro s k
  unfold dag_Get.f
  exact LeO.bind (LeO.refl _) fun _ => LeO.bind (LeO.refl _) fun _ => LeO.bind (tasksL_mono _ _ _ _ _ _) fun _ => LeO.ite (LeO.ite (LeO.bind (dag_Right.mono _ _ _) fun _ => LeO.refl _) (LeO.refl _)) (LeO.refl _)
set_option maxHeartbeats 8000000 in
set_option maxRecDepth 100000 in
theorem dag_Get.calls (k : Nat) (s : ByteArray) (r1 : ByteArray) (r2 : List S39) (r3 : Int) (w : World) (h : dag_Get.f k s = some (r1, r2, r3)) :
    Calls Try.prog 18 #[.string s] w fun e w' => ∃ v1_ : Value, e = .returned (.tuple #[.agg #[.string r1, v1_], .int .i64 r3]) ∧ Kd.S k39 39 w' w.heap.size (fun _ => True) v1_ r2 ∧ Below w.heap.size w w' := by
  have hu24 := Try.underlying24
  have hu39 := Try.underlying39
  have HB := Aside0.mk (Below.refl w.heap.size w)
  unfold dag_Get.f at h
  obtain ⟨⟨nm, at0, bad0⟩, h1, h⟩ := Option.bind_eq_some_iff.1 h
  obtain ⟨⟨n, at1, bad1⟩, h2, h⟩ := Option.bind_eq_some_iff.1 h
  obtain ⟨⟨at2, bad2, T2⟩, h3, h⟩ := Option.bind_eq_some_iff.1 h
  simp only at h1 h2 h3 h
  have H1 := Aside0.mk h1
  have H2 := Aside0.mk h2
  have H3 := Aside0.mk h3
  have H4 := Aside0.mk h
  clear h1 h2 h3 h
  go_enter Try.func18, Try.ntmps18
  go_upto_region 2 with (first | ((with_reducible refine gate_dst (N := 1) rfl ?_); refine box_event ?hg (N := 1) ?hd (cs := #[.string s]) (t := 9) ?hr ?_; (case hd => rfl); (case hg => rfl); (case hr => first | (go_simp; done) | (go_simp; rfl)); intro g1 hg w1 hbox hb; have NB := Aside0.mk (below_step (by repeat (first | (with_reducible first | exact HB.out | apply below_alloc | apply pw_below_drewN | apply below_drew1) | exact HB.out)) hb); have G1 := Aside0.mk (show w.heap.size ≤ g1 by rw [hg]; exact below_size (by repeat (first | (with_reducible first | exact HB.out | apply below_alloc | apply pw_below_drewN | apply below_drew1) | exact HB.out))); clear HB; have HB := NB; have B1 := Aside0.mk hbox; clear NB hb hbox hg; have x1 : w1.cell? ⟨g1, 0, none⟩ = some (.string s) := (blk_cell B1.out 0).trans rfl) | ((with_reducible refine gate_dst (N := 2) rfl ?_); refine box_event ?hg (N := 2) ?hd (cs := #[.string (⟨#[]⟩ : ByteArray), .slice none 0 0]) (t := 24) ?hr ?_; (case hd => rfl); (case hg => rfl); (case hr => first | (go_simp; done) | (go_simp; rfl)); intro g2 hg w2 hbox hb; have NB := Aside0.mk (below_step (by repeat (first | (with_reducible first | exact HB.out | apply below_alloc | apply pw_below_drewN | apply below_drew1) | exact HB.out)) hb); have G2 := Aside0.mk (show w.heap.size ≤ g2 by rw [hg]; exact below_size (by repeat (first | (with_reducible first | exact HB.out | apply below_alloc | apply pw_below_drewN | apply below_drew1) | exact HB.out))); have XB1 := Aside0.mk (blk_below (o := .cells #[.string s] 9 (0, 0)) (by (with_reducible repeat (first | refine blk_drewN ?_ _ | refine blk_drew ?_ | refine blk_alloc ?_ _)); exact B1.out) hb); have N12 := Aside0.mk (show g1 ≠ g2 by rw [hg]; exact Nat.ne_of_lt (blk_lt (o := .cells #[.string s] 9 (0, 0)) (by (with_reducible repeat (first | refine blk_drewN ?_ _ | refine blk_drew ?_ | refine blk_alloc ?_ _)); exact B1.out))); clear HB; have HB := NB; clear B1; have B1 := XB1; clear XB1; have B2 := Aside0.mk hbox; clear NB hb hbox hg; have x1 : w2.cell? ⟨g1, 0, none⟩ = some (.string s) := (blk_cell B1.out 0).trans rfl) | (go_at_call 35; refine (P.code_Cut.calls s 0 nm at0 bad0 _ H1.out).mono ?_; rintro e w3 ⟨rfl, hb⟩; have X1 := Aside0.mk (blk_below (o := .cells #[.string s] 9 (0, 0)) (by (with_reducible repeat (first | refine blk_drewN ?_ _ | refine blk_drew ?_ | refine blk_alloc ?_ _)); exact B1.out) hb); have X2 := Aside0.mk (blk_below (o := .cells #[.string (⟨#[]⟩ : ByteArray), .slice none 0 0] 24 (0, 0)) (by (with_reducible repeat (first | refine blk_drewN ?_ _ | refine blk_drew ?_ | refine blk_alloc ?_ _)); exact B2.out) hb); have XB := Aside0.mk (below_step (by repeat (first | (with_reducible first | exact HB.out | apply below_alloc | apply pw_below_drewN | apply below_drew1) | exact HB.out)) hb); clear hb B1 B2 HB; have B1 := X1; have B2 := X2; have HB := XB; clear X1 X2 XB) | ((with_reducible refine gate_dst (N := 5) rfl ?_); refine box_event ?hg (N := 5) ?hd (cs := #[.int .i64 0]) (t := 3) ?hr ?_; (case hd => rfl); (case hg => rfl); (case hr => first | (go_simp; done) | (go_simp; rfl)); intro g5 hg w4 hbox hb; have NB := Aside0.mk (below_step (by repeat (first | (with_reducible first | exact HB.out | apply below_alloc | apply pw_below_drewN | apply below_drew1) | exact HB.out)) hb); have G5 := Aside0.mk (show w.heap.size ≤ g5 by rw [hg]; exact below_size (by repeat (first | (with_reducible first | exact HB.out | apply below_alloc | apply pw_below_drewN | apply below_drew1) | exact HB.out))); have XB1 := Aside0.mk (blk_below (o := .cells #[.string s] 9 (0, 0)) (by (with_reducible repeat (first | refine blk_drewN ?_ _ | refine blk_drew ?_ | refine blk_alloc ?_ _)); exact B1.out) hb); have N15 := Aside0.mk (show g1 ≠ g5 by rw [hg]; exact Nat.ne_of_lt (blk_lt (o := .cells #[.string s] 9 (0, 0)) (by (with_reducible repeat (first | refine blk_drewN ?_ _ | refine blk_drew ?_ | refine blk_alloc ?_ _)); exact B1.out))); have XB2 := Aside0.mk (blk_below (o := .cells #[.string (⟨#[]⟩ : ByteArray), .slice none 0 0] 24 (0, 0)) (by (with_reducible repeat (first | refine blk_drewN ?_ _ | refine blk_drew ?_ | refine blk_alloc ?_ _)); exact B2.out) hb); have N25 := Aside0.mk (show g2 ≠ g5 by rw [hg]; exact Nat.ne_of_lt (blk_lt (o := .cells #[.string (⟨#[]⟩ : ByteArray), .slice none 0 0] 24 (0, 0)) (by (with_reducible repeat (first | refine blk_drewN ?_ _ | refine blk_drew ?_ | refine blk_alloc ?_ _)); exact B2.out))); clear HB; have HB := NB; clear B1; have B1 := XB1; clear XB1; clear B2; have B2 := XB2; clear XB2; have B5 := Aside0.mk hbox; clear NB hb hbox hg) | ((with_reducible refine gate_dst (N := 6) rfl ?_); refine box_event ?hg (N := 6) ?hd (cs := #[.int .i64 0]) (t := 27) ?hr ?_; (case hd => rfl); (case hg => rfl); (case hr => first | (go_simp; done) | (go_simp; rfl)); intro g6 hg w5 hbox hb; have NB := Aside0.mk (below_step (by repeat (first | (with_reducible first | exact HB.out | apply below_alloc | apply pw_below_drewN | apply below_drew1) | exact HB.out)) hb); have G6 := Aside0.mk (show w.heap.size ≤ g6 by rw [hg]; exact below_size (by repeat (first | (with_reducible first | exact HB.out | apply below_alloc | apply pw_below_drewN | apply below_drew1) | exact HB.out))); have XB1 := Aside0.mk (blk_below (o := .cells #[.string s] 9 (0, 0)) (by (with_reducible repeat (first | refine blk_drewN ?_ _ | refine blk_drew ?_ | refine blk_alloc ?_ _)); exact B1.out) hb); have N16 := Aside0.mk (show g1 ≠ g6 by rw [hg]; exact Nat.ne_of_lt (blk_lt (o := .cells #[.string s] 9 (0, 0)) (by (with_reducible repeat (first | refine blk_drewN ?_ _ | refine blk_drew ?_ | refine blk_alloc ?_ _)); exact B1.out))); have XB2 := Aside0.mk (blk_below (o := .cells #[.string (⟨#[]⟩ : ByteArray), .slice none 0 0] 24 (0, 0)) (by (with_reducible repeat (first | refine blk_drewN ?_ _ | refine blk_drew ?_ | refine blk_alloc ?_ _)); exact B2.out) hb); have N26 := Aside0.mk (show g2 ≠ g6 by rw [hg]; exact Nat.ne_of_lt (blk_lt (o := .cells #[.string (⟨#[]⟩ : ByteArray), .slice none 0 0] 24 (0, 0)) (by (with_reducible repeat (first | refine blk_drewN ?_ _ | refine blk_drew ?_ | refine blk_alloc ?_ _)); exact B2.out))); have XB5 := Aside0.mk (blk_below (o := .cells #[.int .i64 0] 3 (0, 0)) (by (with_reducible repeat (first | refine blk_drewN ?_ _ | refine blk_drew ?_ | refine blk_alloc ?_ _)); exact B5.out) hb); have N56 := Aside0.mk (show g5 ≠ g6 by rw [hg]; exact Nat.ne_of_lt (blk_lt (o := .cells #[.int .i64 0] 3 (0, 0)) (by (with_reducible repeat (first | refine blk_drewN ?_ _ | refine blk_drew ?_ | refine blk_alloc ?_ _)); exact B5.out))); clear HB; have HB := NB; clear B1; have B1 := XB1; clear XB1; clear B2; have B2 := XB2; clear XB2; clear B5; have B5 := XB5; clear XB5; have B6 := Aside0.mk hbox; clear NB hb hbox hg; have x5 : w5.cell? ⟨g5, 0, none⟩ = some (.int .i64 0) := (blk_cell B5.out 0).trans rfl; have y5 := blk_frozen B5.out 0; have x6 : w5.cell? ⟨g6, 0, none⟩ = some (.int .i64 0) := (blk_cell B6.out 0).trans rfl; have y6 := blk_frozen B6.out 0; have n56 := N56.out; have n65 := N56.out.symm))
  have X5 := Aside0.mk (show ((w5.setCell ⟨g5, 0, none⟩ (.int .i64 at0)).setCell ⟨g6, 0, none⟩ (.int .i64 bad0)).heap[g5]? = some (.cells #[.int .i64 at0] 3 (0, 0)) from blk_far (blk_put (cs := #[.int .i64 0]) B5.out 0 _ rfl) N56.out _)
  have X6 := Aside0.mk (show ((w5.setCell ⟨g5, 0, none⟩ (.int .i64 at0)).setCell ⟨g6, 0, none⟩ (.int .i64 bad0)).heap[g6]? = some (.cells #[.int .i64 bad0] 27 (0, 0)) from blk_put (cs := #[.int .i64 0]) (blk_far B6.out N56.out.symm _) 0 _ rfl)
  have X1 := Aside0.mk (show ((w5.setCell ⟨g5, 0, none⟩ (.int .i64 at0)).setCell ⟨g6, 0, none⟩ (.int .i64 bad0)).heap[g1]? = some (.cells #[.string s] 9 (0, 0)) from blk_far (blk_far B1.out N15.out _) N16.out _)
  have X2 := Aside0.mk (show ((w5.setCell ⟨g5, 0, none⟩ (.int .i64 at0)).setCell ⟨g6, 0, none⟩ (.int .i64 bad0)).heap[g2]? = some (.cells #[.string (⟨#[]⟩ : ByteArray), .slice none 0 0] 24 (0, 0)) from blk_far (blk_far B2.out N25.out _) N26.out _)
  have XB := Aside0.mk (show Below w.heap.size w ((w5.setCell ⟨g5, 0, none⟩ (.int .i64 at0)).setCell ⟨g6, 0, none⟩ (.int .i64 bad0)) from below_set (below_set HB.out G5.out) G6.out)
  clear x5 y5 x6 y6
  clear B5 B6 B1 B2 HB
  have B5 := X5
  have B6 := X6
  have B1 := X1
  have B2 := X2
  have HB := XB
  clear X5 X6 X1 X2 XB
  generalize (w5.setCell ⟨g5, 0, none⟩ (.int .i64 at0)).setCell ⟨g6, 0, none⟩ (.int .i64 bad0) = w6 at *
  go_upto_region 4 with ((with_reducible refine gate_dst (N := 8) rfl ?_); refine box_event ?hg (N := 8) ?hd (cs := #[.string (⟨#[]⟩ : ByteArray), .slice none 0 0]) (t := 24) ?hr ?_; (case hd => rfl); (case hg => rfl); (case hr => first | (go_simp; done) | (go_simp; rfl)); intro g8 hg w7 hbox hb; have NB := Aside0.mk (below_step (by repeat (first | (with_reducible first | exact HB.out | apply below_alloc | apply pw_below_drewN | apply below_drew1) | exact HB.out)) hb); have G8 := Aside0.mk (show w.heap.size ≤ g8 by rw [hg]; exact below_size (by repeat (first | (with_reducible first | exact HB.out | apply below_alloc | apply pw_below_drewN | apply below_drew1) | exact HB.out))); have XB1 := Aside0.mk (blk_below (o := .cells #[.string s] 9 (0, 0)) (by (with_reducible repeat (first | refine blk_drewN ?_ _ | refine blk_drew ?_ | refine blk_alloc ?_ _)); exact B1.out) hb); have N18 := Aside0.mk (show g1 ≠ g8 by rw [hg]; exact Nat.ne_of_lt (blk_lt (o := .cells #[.string s] 9 (0, 0)) (by (with_reducible repeat (first | refine blk_drewN ?_ _ | refine blk_drew ?_ | refine blk_alloc ?_ _)); exact B1.out))); have XB2 := Aside0.mk (blk_below (o := .cells #[.string (⟨#[]⟩ : ByteArray), .slice none 0 0] 24 (0, 0)) (by (with_reducible repeat (first | refine blk_drewN ?_ _ | refine blk_drew ?_ | refine blk_alloc ?_ _)); exact B2.out) hb); have N28 := Aside0.mk (show g2 ≠ g8 by rw [hg]; exact Nat.ne_of_lt (blk_lt (o := .cells #[.string (⟨#[]⟩ : ByteArray), .slice none 0 0] 24 (0, 0)) (by (with_reducible repeat (first | refine blk_drewN ?_ _ | refine blk_drew ?_ | refine blk_alloc ?_ _)); exact B2.out))); have XB5 := Aside0.mk (blk_below (o := .cells #[.int .i64 at0] 3 (0, 0)) (by (with_reducible repeat (first | refine blk_drewN ?_ _ | refine blk_drew ?_ | refine blk_alloc ?_ _)); exact B5.out) hb); have N58 := Aside0.mk (show g5 ≠ g8 by rw [hg]; exact Nat.ne_of_lt (blk_lt (o := .cells #[.int .i64 at0] 3 (0, 0)) (by (with_reducible repeat (first | refine blk_drewN ?_ _ | refine blk_drew ?_ | refine blk_alloc ?_ _)); exact B5.out))); have XB6 := Aside0.mk (blk_below (o := .cells #[.int .i64 bad0] 27 (0, 0)) (by (with_reducible repeat (first | refine blk_drewN ?_ _ | refine blk_drew ?_ | refine blk_alloc ?_ _)); exact B6.out) hb); have N68 := Aside0.mk (show g6 ≠ g8 by rw [hg]; exact Nat.ne_of_lt (blk_lt (o := .cells #[.int .i64 bad0] 27 (0, 0)) (by (with_reducible repeat (first | refine blk_drewN ?_ _ | refine blk_drew ?_ | refine blk_alloc ?_ _)); exact B6.out))); clear HB; have HB := NB; clear B1; have B1 := XB1; clear XB1; clear B2; have B2 := XB2; clear XB2; clear B5; have B5 := XB5; clear XB5; clear B6; have B6 := XB6; clear XB6; have B8 := Aside0.mk hbox; clear NB hb hbox hg; have x80 : w7.cell? ⟨g8, 0, none⟩ = some (.string (⟨#[]⟩ : ByteArray)) := (blk_cell B8.out 0).trans rfl; have x81 : w7.cell? ⟨g8, 1, none⟩ = some (.slice none 0 0) := (blk_cell B8.out 1).trans rfl; have y80 := blk_frozen B8.out 0; have y81 := blk_frozen B8.out 1)
  have X8 := Aside0.mk (show ((w7.setCell ⟨g8, 0, none⟩ (.string nm)).setCell ⟨g8, 1, none⟩ (.slice none 0 0)).heap[g8]? = some (.cells #[.string nm, .slice none 0 0] 24 (0, 0)) from blk_put (cs := #[.string nm, .slice none 0 0]) (blk_put (cs := #[.string (⟨#[]⟩ : ByteArray), .slice none 0 0]) B8.out 0 _ rfl) 1 _ rfl)
  have X1 := Aside0.mk (show ((w7.setCell ⟨g8, 0, none⟩ (.string nm)).setCell ⟨g8, 1, none⟩ (.slice none 0 0)).heap[g1]? = some (.cells #[.string s] 9 (0, 0)) from blk_far (blk_far B1.out N18.out _) N18.out _)
  have X2 := Aside0.mk (show ((w7.setCell ⟨g8, 0, none⟩ (.string nm)).setCell ⟨g8, 1, none⟩ (.slice none 0 0)).heap[g2]? = some (.cells #[.string (⟨#[]⟩ : ByteArray), .slice none 0 0] 24 (0, 0)) from blk_far (blk_far B2.out N28.out _) N28.out _)
  have X5 := Aside0.mk (show ((w7.setCell ⟨g8, 0, none⟩ (.string nm)).setCell ⟨g8, 1, none⟩ (.slice none 0 0)).heap[g5]? = some (.cells #[.int .i64 at0] 3 (0, 0)) from blk_far (blk_far B5.out N58.out _) N58.out _)
  have X6 := Aside0.mk (show ((w7.setCell ⟨g8, 0, none⟩ (.string nm)).setCell ⟨g8, 1, none⟩ (.slice none 0 0)).heap[g6]? = some (.cells #[.int .i64 bad0] 27 (0, 0)) from blk_far (blk_far B6.out N68.out _) N68.out _)
  have XB := Aside0.mk (show Below w.heap.size w ((w7.setCell ⟨g8, 0, none⟩ (.string nm)).setCell ⟨g8, 1, none⟩ (.slice none 0 0)) from below_set (below_set HB.out G8.out) G8.out)
  clear x80 x81 y80 y81
  clear B8 B1 B2 B5 B6 HB
  have B8 := X8
  have B1 := X1
  have B2 := X2
  have B5 := X5
  have B6 := X6
  have HB := XB
  clear X8 X1 X2 X5 X6 XB
  generalize (w7.setCell ⟨g8, 0, none⟩ (.string nm)).setCell ⟨g8, 1, none⟩ (.slice none 0 0) = w8 at *
  have N86 := Aside0.mk N68.out.symm
  have N85 := Aside0.mk N58.out.symm
  have N82 := Aside0.mk N28.out.symm
  have HT := Aside0.mk (show Kd.S k39 39 w8 w.heap.size (fun k_ => k_ ≠ g5) (.slice none 0 0) [] from Kd.S_nil _ _ _ _ _)
  go_upto_region 5 with (go_at_call 36; refine (next_calls g6 g1 g5 s at0 bad0 1 n at1 bad1 H2.out _ (by (with_reducible repeat (first | refine blk_drewN ?_ _ | refine blk_drew ?_ | refine blk_alloc ?_ _)); exact B6.out) (by (with_reducible repeat (first | refine blk_drewN ?_ _ | refine blk_drew ?_ | refine blk_alloc ?_ _)); exact B1.out) (by (with_reducible repeat (first | refine blk_drewN ?_ _ | refine blk_drew ?_ | refine blk_alloc ?_ _)); exact B5.out) w (by repeat (first | (with_reducible first | exact HB.out | apply below_alloc | apply pw_below_drewN | apply below_drew1 | refine below_set ?_ G2.out | refine below_set ?_ G8.out | refine below_set ?_ G10.out | refine below_set ?_ G5.out | refine below_set ?_ G6.out) | exact HB.out)) G6.out G5.out).mono ?_; rintro e w9 ⟨rfl, h6_, h5_, hs_, hk_, hb_⟩; have X6 := Aside0.mk h6_; have X5 := Aside0.mk h5_; have XB1 := Aside0.mk ((hk_ g1 (blk_lt (o := .cells #[.string s] 9 (0, 0)) (by (with_reducible repeat (first | refine blk_drewN ?_ _ | refine blk_drew ?_ | refine blk_alloc ?_ _)); exact B1.out)) N16.out N15.out).trans (by (with_reducible repeat (first | refine blk_drewN ?_ _ | refine blk_drew ?_ | refine blk_alloc ?_ _)); exact B1.out)); have XB2 := Aside0.mk ((hk_ g2 (blk_lt (o := .cells #[.string (⟨#[]⟩ : ByteArray), .slice none 0 0] 24 (0, 0)) (by (with_reducible repeat (first | refine blk_drewN ?_ _ | refine blk_drew ?_ | refine blk_alloc ?_ _)); exact B2.out)) N26.out N25.out).trans (by (with_reducible repeat (first | refine blk_drewN ?_ _ | refine blk_drew ?_ | refine blk_alloc ?_ _)); exact B2.out)); have XB8 := Aside0.mk ((hk_ g8 (blk_lt (o := .cells #[.string nm, .slice none 0 0] 24 (0, 0)) (by (with_reducible repeat (first | refine blk_drewN ?_ _ | refine blk_drew ?_ | refine blk_alloc ?_ _)); exact B8.out)) N86.out N85.out).trans (by (with_reducible repeat (first | refine blk_drewN ?_ _ | refine blk_drew ?_ | refine blk_alloc ?_ _)); exact B8.out)); have XHT := Aside0.mk (Kd.S_mono (Kd.S_step (Kd.S_types (by (with_reducible repeat (first | apply Kd.S_alloc | apply Kd.S_drewN | apply Kd.S_drew)); exact HT.out) (by (with_reducible repeat (first | refine blk_drewN ?_ _ | refine blk_drew ?_ | refine blk_alloc ?_ _)); exact B6.out) (by decide)) (fun k_ h_ hlt_ => hk_ k_ hlt_ h_.2 h_.1)) (fun _ h_ => h_.1)); have XB := Aside0.mk hb_; clear h6_ h5_ hs_ hk_ hb_; clear B6 B5 B1 B2 B8 HT HB; have B6 := X6; have B5 := X5; have B1 := XB1; have B2 := XB2; have B8 := XB8; have HT := XHT; have HB := XB; clear X6 X5 XB1 XB2 XB8 XHT XB)
  go_wp2
  go_loopg [9] k (fun kq v9 w' => ∃ (c at_ bad : Int) (T : List S39) (vT : Value), v9 = .int .i64 c ∧ Aside0 (tasksL s kq c at_ bad T = some (at2, bad2, T2)) ∧ Aside0 (Kd.S k39 39 w' w.heap.size (fun k_ => k_ ≠ g5) vT T) ∧ Aside0 (w'.heap[g1]? = some (.cells #[.string s] 9 (0, 0))) ∧ Aside0 (w'.heap[g2]? = some (.cells #[.string (⟨#[]⟩ : ByteArray), .slice none 0 0] 24 (0, 0))) ∧ Aside0 (w'.heap[g5]? = some (.cells #[.int .i64 at_] 3 (0, 0))) ∧ Aside0 (w'.heap[g6]? = some (.cells #[.int .i64 bad] 27 (0, 0))) ∧ Aside0 (w'.heap[g8]? = some (.cells #[.string nm, vT] 24 (0, 0))) ∧ Aside0 (Below w.heap.size w w'))
  case atStart => exact ⟨n, at1, bad1, [], .slice none 0 0, rfl, H3, HT, B1, B2, B5, B6, B8, HB⟩
  case round =>
    clear HT B1 B2 B5 B6 B8 HB H3
    obtain ⟨c, at_, bad, T, vT, rfl, HK_, HT, B1, B2, B5, B6, B8, HB⟩ := hrel
    have hk := HK_.out
    cases gk with
    | zero => cases hk
    | succ k2 =>
    rw [tasksL] at hk
    clear HK_
    have c6 : wr.cell? ⟨g6, 0, none⟩ = some (.int .i64 bad) := (blk_cell B6.out 0).trans rfl
    by_cases c1 : c > 0
    case neg =>
      rw [if_neg c1] at hk
      simp only [Option.some.injEq, Prod.mk.injEq] at hk
      obtain ⟨rfl, rfl, rfl⟩ := hk
      have h4 := H4.out
      clear H4
      by_cases c2 : bad = 0
      case neg =>
        have e1b : (bad != 0) = true := bne_iff_ne.mpr c2
        rw [if_neg c2] at h4
        simp only [Option.some.injEq, Prod.mk.injEq] at h4
        obtain ⟨rfl, rfl, rfl⟩ := h4
        have a0 : wr.cell? ⟨g2, 0, none⟩ = some (.string (⟨#[]⟩ : ByteArray)) := (blk_cell B2.out 0).trans rfl
        have a1 : wr.cell? ⟨g2, 1, none⟩ = some (.slice none 0 0) := (blk_cell B2.out 1).trans rfl
        have af0 := blk_frozen B2.out 0
        have af1 := blk_frozen B2.out 1
        have n26 := N26.out
        have n62 := N26.out.symm
        go_wp2_with fail
        go_region
        go_wp2_with fail
        refine bodyPost_ret (results_ct rfl _ _ g2 24 #[.string (⟨#[]⟩ : ByteArray), .slice none 0 0] (0, 0) _ rfl (by (with_reducible repeat (first | refine blk_drewN ?_ _ | refine blk_drew ?_ | refine blk_alloc ?_ _)); refine blk_put (cs := #[.string (⟨#[]⟩ : ByteArray), .slice none 0 0]) ?_ 1 _ rfl; (with_reducible repeat (first | refine blk_drewN ?_ _ | refine blk_drew ?_ | refine blk_alloc ?_ _)); refine blk_put (cs := #[.string (⟨#[]⟩ : ByteArray), .slice none 0 0]) ?_ 0 _ rfl; (with_reducible repeat (first | refine blk_drewN ?_ _ | refine blk_drew ?_ | refine blk_alloc ?_ _)); exact B2.out) Try.underlying24 rfl (by kernel_rfl)) rfl ?_
        exact ⟨_, rfl, Kd.S_nil _ _ _ _ _, (by repeat (first | (with_reducible first | exact HB.out | apply below_alloc | apply pw_below_drewN | apply below_drew1 | refine below_set ?_ G2.out | refine below_set ?_ G8.out | refine below_set ?_ G10.out | refine below_set ?_ G5.out | refine below_set ?_ G6.out) | exact HB.out))⟩
      rw [if_pos c2] at h4
      subst c2
      have b5 : wr.cell? ⟨g5, 0, none⟩ = some (.int .i64 at_) := (blk_cell B5.out 0).trans rfl
      have b1 : wr.cell? ⟨g1, 0, none⟩ = some (.string s) := (blk_cell B1.out 0).trans rfl
      by_cases e2 : at_ = (s.size : Int)
      case neg =>
        have e2b : (at_ != (s.size : Int)) = true := bne_iff_ne.mpr e2
        rw [if_neg e2] at h4
        simp only [Option.some.injEq, Prod.mk.injEq] at h4
        obtain ⟨rfl, rfl, rfl⟩ := h4
        have a0 : wr.cell? ⟨g2, 0, none⟩ = some (.string (⟨#[]⟩ : ByteArray)) := (blk_cell B2.out 0).trans rfl
        have a1 : wr.cell? ⟨g2, 1, none⟩ = some (.slice none 0 0) := (blk_cell B2.out 1).trans rfl
        have af0 := blk_frozen B2.out 0
        have af1 := blk_frozen B2.out 1
        go_wp2_with fail
        refine bodyPost_ret (results_ct rfl _ _ g2 24 #[.string (⟨#[]⟩ : ByteArray), .slice none 0 0] (0, 0) _ rfl (by (with_reducible repeat (first | refine blk_drewN ?_ _ | refine blk_drew ?_ | refine blk_alloc ?_ _)); refine blk_put (cs := #[.string (⟨#[]⟩ : ByteArray), .slice none 0 0]) ?_ 1 _ rfl; (with_reducible repeat (first | refine blk_drewN ?_ _ | refine blk_drew ?_ | refine blk_alloc ?_ _)); refine blk_put (cs := #[.string (⟨#[]⟩ : ByteArray), .slice none 0 0]) ?_ 0 _ rfl; (with_reducible repeat (first | refine blk_drewN ?_ _ | refine blk_drew ?_ | refine blk_alloc ?_ _)); exact B2.out) Try.underlying24 rfl (by kernel_rfl)) rfl ?_
        exact ⟨_, rfl, Kd.S_nil _ _ _ _ _, (by repeat (first | (with_reducible first | exact HB.out | apply below_alloc | apply pw_below_drewN | apply below_drew1 | refine below_set ?_ G2.out | refine below_set ?_ G8.out | refine below_set ?_ G10.out | refine below_set ?_ G5.out | refine below_set ?_ G6.out) | exact HB.out))⟩
      rw [if_pos e2] at h4
      subst e2
      obtain ⟨rr, hrr, h4⟩ := Option.bind_eq_some_iff.1 h4
      have R1 := Aside0.mk hrr
      clear hrr
      obtain ⟨AT, cT, rfl⟩ := Kd.S_slice HT.out
      have b80 : wr.cell? ⟨g8, 0, none⟩ = some (.string nm) := (blk_cell B8.out 0).trans rfl
      have b81 : wr.cell? ⟨g8, 1, none⟩ = some (.slice AT T.length cT) := (blk_cell B8.out 1).trans rfl
      by_cases e3 : rr = 0
      case neg =>
        have e3b : (rr != 0) = true := bne_iff_ne.mpr e3
        rw [if_neg e3] at h4
        simp only [Option.some.injEq, Prod.mk.injEq] at h4
        obtain ⟨rfl, rfl, rfl⟩ := h4
        go_wp2_with (go_at_call 12; refine (dag_Right.calls k nm AT cT T rr _ (by repeat (first | exact (Kd.S_reads' HT.out).2.2 | (with_reducible refine Kd.C_alloc ?_ _) | (with_reducible refine Kd.C_drewN ?_ _) | (with_reducible refine Kd.C_drew ?_))) (Kd.S_reads' HT.out).2.1 R1.out).mono ?_; rintro e w8 ⟨rfl, hb⟩; have X2 := Aside0.mk (blk_below (o := .cells #[.string (⟨#[]⟩ : ByteArray), .slice none 0 0] 24 (0, 0)) (by (with_reducible repeat (first | refine blk_drewN ?_ _ | refine blk_drew ?_ | refine blk_alloc ?_ _)); exact B2.out) hb); have X8 := Aside0.mk (blk_below (o := .cells #[.string nm, .slice AT T.length cT] 24 (0, 0)) (by (with_reducible repeat (first | refine blk_drewN ?_ _ | refine blk_drew ?_ | refine blk_alloc ?_ _)); exact B8.out) hb); have XT := Aside0.mk (show Kd.S k39 39 w8 w.heap.size (fun k_ => k_ ≠ g5) (.slice AT T.length cT) T from Kd.S_below (by (with_reducible repeat (first | apply Kd.S_alloc | apply Kd.S_drewN | apply Kd.S_drew)); exact HT.out) hb); have XB := Aside0.mk (below_step (by repeat (first | (with_reducible first | exact HB.out | apply below_alloc | apply pw_below_drewN | apply below_drew1) | exact HB.out)) hb); clear hb; clear B2 B8 HT HB; have B2 := X2; have B8 := X8; have HT := XT; have HB := XB; clear X2 X8 XT XB; have b80 : w8.cell? ⟨g8, 0, none⟩ = some (.string nm) := (blk_cell B8.out 0).trans rfl; have b81 : w8.cell? ⟨g8, 1, none⟩ = some (.slice AT T.length cT) := (blk_cell B8.out 1).trans rfl; have a0 : w8.cell? ⟨g2, 0, none⟩ = some (.string (⟨#[]⟩ : ByteArray)) := (blk_cell B2.out 0).trans rfl; have a1 : w8.cell? ⟨g2, 1, none⟩ = some (.slice none 0 0) := (blk_cell B2.out 1).trans rfl; have af0 := blk_frozen B2.out 0; have af1 := blk_frozen B2.out 1)
        refine bodyPost_ret (results_ct rfl _ _ g2 24 #[.string (⟨#[]⟩ : ByteArray), .slice none 0 0] (0, 0) _ rfl (by (with_reducible repeat (first | refine blk_drewN ?_ _ | refine blk_drew ?_ | refine blk_alloc ?_ _)); refine blk_put (cs := #[.string (⟨#[]⟩ : ByteArray), .slice none 0 0]) ?_ 1 _ rfl; (with_reducible repeat (first | refine blk_drewN ?_ _ | refine blk_drew ?_ | refine blk_alloc ?_ _)); refine blk_put (cs := #[.string (⟨#[]⟩ : ByteArray), .slice none 0 0]) ?_ 0 _ rfl; (with_reducible repeat (first | refine blk_drewN ?_ _ | refine blk_drew ?_ | refine blk_alloc ?_ _)); exact B2.out) Try.underlying24 rfl (by kernel_rfl)) rfl ?_
        exact ⟨_, rfl, Kd.S_nil _ _ _ _ _, (by repeat (first | (with_reducible first | exact HB.out | apply below_alloc | apply pw_below_drewN | apply below_drew1 | refine below_set ?_ G2.out | refine below_set ?_ G8.out | refine below_set ?_ G10.out | refine below_set ?_ G5.out | refine below_set ?_ G6.out) | exact HB.out))⟩
      rw [if_pos e3] at h4
      subst e3
      simp only [Option.some.injEq, Prod.mk.injEq] at h4
      obtain ⟨rfl, rfl, rfl⟩ := h4
      go_wp2_with (go_at_call 12; refine (dag_Right.calls k nm AT cT T 0 _ (by repeat (first | exact (Kd.S_reads' HT.out).2.2 | (with_reducible refine Kd.C_alloc ?_ _) | (with_reducible refine Kd.C_drewN ?_ _) | (with_reducible refine Kd.C_drew ?_))) (Kd.S_reads' HT.out).2.1 R1.out).mono ?_; rintro e w8 ⟨rfl, hb⟩; have X2 := Aside0.mk (blk_below (o := .cells #[.string (⟨#[]⟩ : ByteArray), .slice none 0 0] 24 (0, 0)) (by (with_reducible repeat (first | refine blk_drewN ?_ _ | refine blk_drew ?_ | refine blk_alloc ?_ _)); exact B2.out) hb); have X8 := Aside0.mk (blk_below (o := .cells #[.string nm, .slice AT T.length cT] 24 (0, 0)) (by (with_reducible repeat (first | refine blk_drewN ?_ _ | refine blk_drew ?_ | refine blk_alloc ?_ _)); exact B8.out) hb); have XT := Aside0.mk (show Kd.S k39 39 w8 w.heap.size (fun k_ => k_ ≠ g5) (.slice AT T.length cT) T from Kd.S_below (by (with_reducible repeat (first | apply Kd.S_alloc | apply Kd.S_drewN | apply Kd.S_drew)); exact HT.out) hb); have XB := Aside0.mk (below_step (by repeat (first | (with_reducible first | exact HB.out | apply below_alloc | apply pw_below_drewN | apply below_drew1) | exact HB.out)) hb); clear hb; clear B2 B8 HT HB; have B2 := X2; have B8 := X8; have HT := XT; have HB := XB; clear X2 X8 XT XB; have b80 : w8.cell? ⟨g8, 0, none⟩ = some (.string nm) := (blk_cell B8.out 0).trans rfl; have b81 : w8.cell? ⟨g8, 1, none⟩ = some (.slice AT T.length cT) := (blk_cell B8.out 1).trans rfl; have a0 : w8.cell? ⟨g2, 0, none⟩ = some (.string (⟨#[]⟩ : ByteArray)) := (blk_cell B2.out 0).trans rfl; have a1 : w8.cell? ⟨g2, 1, none⟩ = some (.slice none 0 0) := (blk_cell B2.out 1).trans rfl; have af0 := blk_frozen B2.out 0; have af1 := blk_frozen B2.out 1)
      refine bodyPost_ret (results_ct rfl _ _ g2 24 #[.string nm, .slice AT T.length cT] (0, 0) _ rfl (by (with_reducible repeat (first | refine blk_drewN ?_ _ | refine blk_drew ?_ | refine blk_alloc ?_ _)); refine blk_put (cs := #[.string nm, .slice none 0 0]) ?_ 1 _ rfl; (with_reducible repeat (first | refine blk_drewN ?_ _ | refine blk_drew ?_ | refine blk_alloc ?_ _)); refine blk_put (cs := #[.string (⟨#[]⟩ : ByteArray), .slice none 0 0]) ?_ 0 _ rfl; (with_reducible repeat (first | refine blk_drewN ?_ _ | refine blk_drew ?_ | refine blk_alloc ?_ _)); exact B2.out) Try.underlying24 rfl (by kernel_rfl)) rfl ?_
      exact ⟨_, rfl, (by refine Kd.S_mono (Kd.S_keep (Kd.S_types HT.out B2.out (by decide)) ?_ (fun _ h_ => h_.2)) (fun _ _ => trivial); repeat (first | exact KeepBut.refl _ _ _ | refine KeepBut.set_ ?_ _ _ | refine keep_drewN ?_ _)), (by repeat (first | (with_reducible first | exact HB.out | apply below_alloc | apply pw_below_drewN | apply below_drew1 | refine below_set ?_ G2.out | refine below_set ?_ G8.out | refine below_set ?_ G10.out | refine below_set ?_ G5.out | refine below_set ?_ G6.out) | exact HB.out))⟩
    by_cases c2 : bad = 0
    case neg =>
      rw [if_pos c1, if_neg c2] at hk
      simp only [Option.some.injEq, Prod.mk.injEq] at hk
      obtain ⟨rfl, rfl, rfl⟩ := hk
      have h4 := H4.out
      clear H4
      have c2b : (bad == 0) = false := beq_eq_false_iff_ne.mpr c2
      have e1b : (bad != 0) = true := bne_iff_ne.mpr c2
      rw [if_neg c2] at h4
      simp only [Option.some.injEq, Prod.mk.injEq] at h4
      obtain ⟨rfl, rfl, rfl⟩ := h4
      have a0 : wr.cell? ⟨g2, 0, none⟩ = some (.string (⟨#[]⟩ : ByteArray)) := (blk_cell B2.out 0).trans rfl
      have a1 : wr.cell? ⟨g2, 1, none⟩ = some (.slice none 0 0) := (blk_cell B2.out 1).trans rfl
      have af0 := blk_frozen B2.out 0
      have af1 := blk_frozen B2.out 1
      have n26 := N26.out
      have n62 := N26.out.symm
      go_wp2_with fail
      go_region
      go_wp2_with fail
      refine bodyPost_ret (results_ct rfl _ _ g2 24 #[.string (⟨#[]⟩ : ByteArray), .slice none 0 0] (0, 0) _ rfl (by (with_reducible repeat (first | refine blk_drewN ?_ _ | refine blk_drew ?_ | refine blk_alloc ?_ _)); refine blk_put (cs := #[.string (⟨#[]⟩ : ByteArray), .slice none 0 0]) ?_ 1 _ rfl; (with_reducible repeat (first | refine blk_drewN ?_ _ | refine blk_drew ?_ | refine blk_alloc ?_ _)); refine blk_put (cs := #[.string (⟨#[]⟩ : ByteArray), .slice none 0 0]) ?_ 0 _ rfl; (with_reducible repeat (first | refine blk_drewN ?_ _ | refine blk_drew ?_ | refine blk_alloc ?_ _)); exact B2.out) Try.underlying24 rfl (by kernel_rfl)) rfl ?_
      exact ⟨_, rfl, Kd.S_nil _ _ _ _ _, (by repeat (first | (with_reducible first | exact HB.out | apply below_alloc | apply pw_below_drewN | apply below_drew1 | refine below_set ?_ G2.out | refine below_set ?_ G8.out | refine below_set ?_ G10.out | refine below_set ?_ G5.out | refine below_set ?_ G6.out) | exact HB.out))⟩
    rw [if_pos c1, if_pos c2] at hk
    subst c2
    by_cases c3 : T.length < 1000000 ∧ c < 1000000000000
    case neg => rw [if_neg c3] at hk; cases hk
    rw [if_pos c3] at hk
    have LT := Aside0.mk c3
    clear c3
    obtain ⟨⟨a, at3, bad3⟩, h1, hk⟩ := Option.bind_eq_some_iff.1 hk
    obtain ⟨⟨at4, bad4, L4⟩, h2, hk⟩ := Option.bind_eq_some_iff.1 hk
    obtain ⟨⟨d, at5, bad5⟩, h3, hk⟩ := Option.bind_eq_some_iff.1 hk
    obtain ⟨⟨e_, at6, bad6⟩, h4, hk⟩ := Option.bind_eq_some_iff.1 hk
    obtain ⟨⟨g_, at7, bad7⟩, h5, hk⟩ := Option.bind_eq_some_iff.1 hk
    simp only at h1 h2 h3 h4 h5 hk
    have TA := Aside0.mk h1
    have T1 := Aside0.mk h2
    have TD := Aside0.mk h3
    have TE := Aside0.mk h4
    have TG := Aside0.mk h5
    have HSO := Aside0.mk hk
    clear h1 h2 h3 h4 h5 hk
    go_upto_region 8 with ((with_reducible refine gate_dst (N := 10) rfl ?_); refine box_event ?hg (N := 10) ?hd (cs := #[.slice none 0 0, .int .i64 0, .int .i64 0, .int .i64 0]) (t := 39) ?hr ?_; (case hd => rfl); (case hg => rfl); (case hr => first | (go_simp; done) | (go_simp; rfl)); intro g10 hg w10 hbox hb; have NB := Aside0.mk (below_step (by repeat (first | (with_reducible first | exact HB.out | apply below_alloc | apply pw_below_drewN | apply below_drew1) | exact HB.out)) hb); have G10 := Aside0.mk (show w.heap.size ≤ g10 by rw [hg]; exact below_size (by repeat (first | (with_reducible first | exact HB.out | apply below_alloc | apply pw_below_drewN | apply below_drew1) | exact HB.out))); have XB1 := Aside0.mk (blk_below (o := .cells #[.string s] 9 (0, 0)) (by (with_reducible repeat (first | refine blk_drewN ?_ _ | refine blk_drew ?_ | refine blk_alloc ?_ _)); exact B1.out) hb); have N110 := Aside0.mk (show g1 ≠ g10 by rw [hg]; exact Nat.ne_of_lt (blk_lt (o := .cells #[.string s] 9 (0, 0)) (by (with_reducible repeat (first | refine blk_drewN ?_ _ | refine blk_drew ?_ | refine blk_alloc ?_ _)); exact B1.out))); have XB2 := Aside0.mk (blk_below (o := .cells #[.string (⟨#[]⟩ : ByteArray), .slice none 0 0] 24 (0, 0)) (by (with_reducible repeat (first | refine blk_drewN ?_ _ | refine blk_drew ?_ | refine blk_alloc ?_ _)); exact B2.out) hb); have N210 := Aside0.mk (show g2 ≠ g10 by rw [hg]; exact Nat.ne_of_lt (blk_lt (o := .cells #[.string (⟨#[]⟩ : ByteArray), .slice none 0 0] 24 (0, 0)) (by (with_reducible repeat (first | refine blk_drewN ?_ _ | refine blk_drew ?_ | refine blk_alloc ?_ _)); exact B2.out))); have XB5 := Aside0.mk (blk_below (o := .cells #[.int .i64 at_] 3 (0, 0)) (by (with_reducible repeat (first | refine blk_drewN ?_ _ | refine blk_drew ?_ | refine blk_alloc ?_ _)); exact B5.out) hb); have N510 := Aside0.mk (show g5 ≠ g10 by rw [hg]; exact Nat.ne_of_lt (blk_lt (o := .cells #[.int .i64 at_] 3 (0, 0)) (by (with_reducible repeat (first | refine blk_drewN ?_ _ | refine blk_drew ?_ | refine blk_alloc ?_ _)); exact B5.out))); have XB6 := Aside0.mk (blk_below (o := .cells #[.int .i64 0] 27 (0, 0)) (by (with_reducible repeat (first | refine blk_drewN ?_ _ | refine blk_drew ?_ | refine blk_alloc ?_ _)); exact B6.out) hb); have N610 := Aside0.mk (show g6 ≠ g10 by rw [hg]; exact Nat.ne_of_lt (blk_lt (o := .cells #[.int .i64 0] 27 (0, 0)) (by (with_reducible repeat (first | refine blk_drewN ?_ _ | refine blk_drew ?_ | refine blk_alloc ?_ _)); exact B6.out))); have XB8 := Aside0.mk (blk_below (o := .cells #[.string nm, vT] 24 (0, 0)) (by (with_reducible repeat (first | refine blk_drewN ?_ _ | refine blk_drew ?_ | refine blk_alloc ?_ _)); exact B8.out) hb); have N810 := Aside0.mk (show g8 ≠ g10 by rw [hg]; exact Nat.ne_of_lt (blk_lt (o := .cells #[.string nm, vT] 24 (0, 0)) (by (with_reducible repeat (first | refine blk_drewN ?_ _ | refine blk_drew ?_ | refine blk_alloc ?_ _)); exact B8.out))); clear HB; have HB := NB; clear B1; have B1 := XB1; clear XB1; clear B2; have B2 := XB2; clear XB2; clear B5; have B5 := XB5; clear XB5; clear B6; have B6 := XB6; clear XB6; clear B8; have B8 := XB8; clear XB8; have B10 := Aside0.mk hbox; have XT := Aside0.mk (show Kd.S k39 39 w10 w.heap.size (fun k_ => (k_ ≠ g5 ∧ k_ ≠ g10) ∧ some k_ ≠ (.slice none 0 0 : Value).ownBlock) vT T from Kd.S_apart_nil (Kd.S_below (Kd.S_elderB (by (with_reducible repeat (first | apply Kd.S_alloc | apply Kd.S_drewN | apply Kd.S_drew)); exact HT.out) g10 (Nat.le_of_eq hg.symm)) hb)); clear HT; have HT := XT; clear XT; clear NB hb hbox hg)
    have N106 := Aside0.mk N610.out.symm
    have N105 := Aside0.mk N510.out.symm
    have HN := Aside0.mk (show Kd.R (Kd.int .i64) 3 w10 w.heap.size (fun k_ => k_ ≠ g5) (.slice none 0 0) [] from Kd.R_nil _ _ _ _ _)
    clear c6
    go_upto_region 9 with (go_at_call 36; refine (next_calls g6 g1 g5 s at_ 0 1 a at3 bad3 TA.out _ (by (with_reducible repeat (first | refine blk_drewN ?_ _ | refine blk_drew ?_ | refine blk_alloc ?_ _)); exact B6.out) (by (with_reducible repeat (first | refine blk_drewN ?_ _ | refine blk_drew ?_ | refine blk_alloc ?_ _)); exact B1.out) (by (with_reducible repeat (first | refine blk_drewN ?_ _ | refine blk_drew ?_ | refine blk_alloc ?_ _)); exact B5.out) w (by repeat (first | (with_reducible first | exact HB.out | apply below_alloc | apply pw_below_drewN | apply below_drew1 | refine below_set ?_ G2.out | refine below_set ?_ G8.out | refine below_set ?_ G10.out | refine below_set ?_ G5.out | refine below_set ?_ G6.out) | exact HB.out)) G6.out G5.out).mono ?_; rintro e w11 ⟨rfl, h6_, h5_, hs_, hk_, hb_⟩; have X6 := Aside0.mk h6_; have X5 := Aside0.mk h5_; have XB1 := Aside0.mk (keep_blk (g := g1) (o := .cells #[.string s] 9 (0, 0)) hk_ (by (with_reducible repeat (first | refine blk_drewN ?_ _ | refine blk_drew ?_ | refine blk_alloc ?_ _)); exact B1.out) N16.out N15.out); have XB2 := Aside0.mk (keep_blk (g := g2) (o := .cells #[.string (⟨#[]⟩ : ByteArray), .slice none 0 0] 24 (0, 0)) hk_ (by (with_reducible repeat (first | refine blk_drewN ?_ _ | refine blk_drew ?_ | refine blk_alloc ?_ _)); exact B2.out) N26.out N25.out); have XB8 := Aside0.mk (keep_blk (g := g8) (o := .cells #[.string nm, vT] 24 (0, 0)) hk_ (by (with_reducible repeat (first | refine blk_drewN ?_ _ | refine blk_drew ?_ | refine blk_alloc ?_ _)); exact B8.out) N86.out N85.out); have XB10 := Aside0.mk (keep_blk (g := g10) (o := .cells #[.slice none 0 0, .int .i64 0, .int .i64 0, .int .i64 0] 39 (0, 0)) hk_ (by (with_reducible repeat (first | refine blk_drewN ?_ _ | refine blk_drew ?_ | refine blk_alloc ?_ _)); exact B10.out) N106.out N105.out); have XHN := Aside0.mk (keep_R (d := Kd.int .i64) (e := 3) (base := w.heap.size) (ok := (fun k_ => k_ ≠ g5)) (v := .slice none 0 0) (xs := []) hk_ (by (with_reducible repeat (first | apply Kd.R_alloc | apply Kd.R_drewN | apply Kd.R_drew)); exact HN.out) (by (with_reducible repeat (first | refine blk_drewN ?_ _ | refine blk_drew ?_ | refine blk_alloc ?_ _)); exact B6.out) (by decide) (fun _ h_ => h_)); have XHT := Aside0.mk (keep_S (d := k39) (e := 39) (base := w.heap.size) (ok := (fun k_ => (k_ ≠ g5 ∧ k_ ≠ g10) ∧ some k_ ≠ (.slice none 0 0 : Value).ownBlock)) (v := vT) (xs := T) hk_ (by (with_reducible repeat (first | apply Kd.S_alloc | apply Kd.S_drewN | apply Kd.S_drew)); exact HT.out) (by (with_reducible repeat (first | refine blk_drewN ?_ _ | refine blk_drew ?_ | refine blk_alloc ?_ _)); exact B6.out) (by decide) (fun _ h_ => h_.1.1)); have XB := Aside0.mk hb_; clear h6_ h5_ hs_ hk_ hb_; clear B6 B5 B1 B2 B8 B10 HN HT HB; have B6 := X6; have B5 := X5; have B1 := XB1; have B2 := XB2; have B8 := XB8; have B10 := XB10; have HN := XHN; have HT := XHT; have HB := XB; clear X6 X5 XB1 XB2 XB8 XB10 XHN XHT XB)
    go_wp2
    go_loopg [11] k2 (fun kq v11 w' => ∃ (cn atn badn : Int) (L : List Int) (vN : Value), v11 = .int .i64 cn ∧ Aside0 (needsL s kq cn atn badn L = some (at4, bad4, L4)) ∧ Aside0 (Kd.R (Kd.int .i64) 3 w' w.heap.size (fun k_ => k_ ≠ g5) vN L) ∧ Aside0 (Kd.S k39 39 w' w.heap.size (fun k_ => (k_ ≠ g5 ∧ k_ ≠ g10) ∧ some k_ ≠ (vN : Value).ownBlock) vT T) ∧ Aside0 (w'.heap[g1]? = some (.cells #[.string s] 9 (0, 0))) ∧ Aside0 (w'.heap[g2]? = some (.cells #[.string (⟨#[]⟩ : ByteArray), .slice none 0 0] 24 (0, 0))) ∧ Aside0 (w'.heap[g5]? = some (.cells #[.int .i64 atn] 3 (0, 0))) ∧ Aside0 (w'.heap[g6]? = some (.cells #[.int .i64 badn] 27 (0, 0))) ∧ Aside0 (w'.heap[g8]? = some (.cells #[.string nm, vT] 24 (0, 0))) ∧ Aside0 (w'.heap[g10]? = some (.cells #[vN, .int .i64 0, .int .i64 0, .int .i64 0] 39 (0, 0))) ∧ Aside0 (Below w.heap.size w w'))
    case atStart => exact ⟨_, at3, bad3, [], .slice none 0 0, rfl, T1, HN, HT, B1, B2, B5, B6, B8, B10, HB⟩
    case round =>
      clear HN HT B1 B2 B5 B6 B8 B10 HB T1
      obtain ⟨cn, atn, badn, L, vN, rfl, HL, HN, HT, B1, B2, B5, B6, B8, B10, HB⟩ := hrel
      have hn := HL.out
      cases gk with
      | zero => cases hn
      | succ k3 =>
      rw [needsL] at hn
      clear HL
      have c6 : wr.cell? ⟨g6, 0, none⟩ = some (.int .i64 badn) := (blk_cell B6.out 0).trans rfl
      by_cases cc1 : cn > 0
      case neg =>
        rw [if_neg cc1] at hn
        simp only [Option.some.injEq, Prod.mk.injEq] at hn
        obtain ⟨rfl, rfl, rfl⟩ := hn
        go_upto_region 13 with (go_at_call 36; refine (next_calls g6 g1 g5 s atn badn 1 d at5 bad5 TD.out _ (by (with_reducible repeat (first | refine blk_drewN ?_ _ | refine blk_drew ?_ | refine blk_alloc ?_ _)); exact B6.out) (by (with_reducible repeat (first | refine blk_drewN ?_ _ | refine blk_drew ?_ | refine blk_alloc ?_ _)); exact B1.out) (by (with_reducible repeat (first | refine blk_drewN ?_ _ | refine blk_drew ?_ | refine blk_alloc ?_ _)); exact B5.out) w (by repeat (first | (with_reducible first | exact HB.out | apply below_alloc | apply pw_below_drewN | apply below_drew1 | refine below_set ?_ G2.out | refine below_set ?_ G8.out | refine below_set ?_ G10.out | refine below_set ?_ G5.out | refine below_set ?_ G6.out) | exact HB.out)) G6.out G5.out).mono ?_; rintro e m1 ⟨rfl, h6_, h5_, hs_, hk_, hb_⟩; have X6 := Aside0.mk h6_; have X5 := Aside0.mk h5_; have XB1 := Aside0.mk (keep_blk (g := g1) (o := .cells #[.string s] 9 (0, 0)) hk_ (by (with_reducible repeat (first | refine blk_drewN ?_ _ | refine blk_drew ?_ | refine blk_alloc ?_ _)); exact B1.out) N16.out N15.out); have XB2 := Aside0.mk (keep_blk (g := g2) (o := .cells #[.string (⟨#[]⟩ : ByteArray), .slice none 0 0] 24 (0, 0)) hk_ (by (with_reducible repeat (first | refine blk_drewN ?_ _ | refine blk_drew ?_ | refine blk_alloc ?_ _)); exact B2.out) N26.out N25.out); have XB8 := Aside0.mk (keep_blk (g := g8) (o := .cells #[.string nm, vT] 24 (0, 0)) hk_ (by (with_reducible repeat (first | refine blk_drewN ?_ _ | refine blk_drew ?_ | refine blk_alloc ?_ _)); exact B8.out) N86.out N85.out); have XB10 := Aside0.mk (keep_blk (g := g10) (o := .cells #[vN, .int .i64 0, .int .i64 0, .int .i64 0] 39 (0, 0)) hk_ (by (with_reducible repeat (first | refine blk_drewN ?_ _ | refine blk_drew ?_ | refine blk_alloc ?_ _)); exact B10.out) N106.out N105.out); have XHN := Aside0.mk (keep_R (d := Kd.int .i64) (e := 3) (base := w.heap.size) (ok := (fun k_ => k_ ≠ g5)) (v := vN) (xs := L) hk_ (by (with_reducible repeat (first | apply Kd.R_alloc | apply Kd.R_drewN | apply Kd.R_drew)); exact HN.out) (by (with_reducible repeat (first | refine blk_drewN ?_ _ | refine blk_drew ?_ | refine blk_alloc ?_ _)); exact B6.out) (by decide) (fun _ h_ => h_)); have XHT := Aside0.mk (keep_S (d := k39) (e := 39) (base := w.heap.size) (ok := (fun k_ => (k_ ≠ g5 ∧ k_ ≠ g10) ∧ some k_ ≠ (vN : Value).ownBlock)) (v := vT) (xs := T) hk_ (by (with_reducible repeat (first | apply Kd.S_alloc | apply Kd.S_drewN | apply Kd.S_drew)); exact HT.out) (by (with_reducible repeat (first | refine blk_drewN ?_ _ | refine blk_drew ?_ | refine blk_alloc ?_ _)); exact B6.out) (by decide) (fun _ h_ => h_.1.1)); have XB := Aside0.mk hb_; clear h6_ h5_ hs_ hk_ hb_; clear B6 B5 B1 B2 B8 B10 HN HT HB; have B6 := X6; have B5 := X5; have B1 := XB1; have B2 := XB2; have B8 := XB8; have B10 := XB10; have HN := XHN; have HT := XHT; have HB := XB; clear X6 X5 XB1 XB2 XB8 XB10 XHN XHT XB; have d1 : m1.cell? ⟨g10, 1, none⟩ = some (.int .i64 0) := (blk_cell B10.out 1).trans rfl; have e1 := blk_frozen B10.out 1)
        clear d1 e1
        have X10 := Aside0.mk (show (m1.setCell ⟨g10, 1, none⟩ (.int .i64 d)).heap[g10]? = some (.cells #[vN, .int .i64 d, .int .i64 0, .int .i64 0] 39 (0, 0)) from blk_put (cs := #[vN, .int .i64 0, .int .i64 0, .int .i64 0]) B10.out 1 _ rfl)
        have XB1 := Aside0.mk (show (m1.setCell ⟨g10, 1, none⟩ (.int .i64 d)).heap[g1]? = some (.cells #[.string s] 9 (0, 0)) from blk_far B1.out N110.out _)
        have XB2 := Aside0.mk (show (m1.setCell ⟨g10, 1, none⟩ (.int .i64 d)).heap[g2]? = some (.cells #[.string (⟨#[]⟩ : ByteArray), .slice none 0 0] 24 (0, 0)) from blk_far B2.out N210.out _)
        have XB5 := Aside0.mk (show (m1.setCell ⟨g10, 1, none⟩ (.int .i64 d)).heap[g5]? = some (.cells #[.int .i64 at5] 3 (0, 0)) from blk_far B5.out N510.out _)
        have XB6 := Aside0.mk (show (m1.setCell ⟨g10, 1, none⟩ (.int .i64 d)).heap[g6]? = some (.cells #[.int .i64 bad5] 27 (0, 0)) from blk_far B6.out N610.out _)
        have XB8 := Aside0.mk (show (m1.setCell ⟨g10, 1, none⟩ (.int .i64 d)).heap[g8]? = some (.cells #[.string nm, vT] 24 (0, 0)) from blk_far B8.out N810.out _)
        have XHN := Aside0.mk (show Kd.R (Kd.int .i64) 3 (m1.setCell ⟨g10, 1, none⟩ (.int .i64 d)) w.heap.size (fun k_ => k_ ≠ g5) (vN) (L) from Kd.R_mono (Kd.R_far (p := ⟨g10, 1, none⟩) (Kd.R_types HN.out B10.out (by decide)) (fun _ h_ => h_.2) (.int .i64 d)) (fun _ h_ => h_.1))
        have XHT := Aside0.mk (show Kd.S k39 39 (m1.setCell ⟨g10, 1, none⟩ (.int .i64 d)) w.heap.size (fun k_ => (k_ ≠ g5 ∧ k_ ≠ g10) ∧ some k_ ≠ (vN : Value).ownBlock) (vT) (T) from Kd.S_far (p := ⟨g10, 1, none⟩) HT.out (fun _ h_ => h_.1.2) (.int .i64 d))
        have XB := Aside0.mk (show Below w.heap.size w (m1.setCell ⟨g10, 1, none⟩ (.int .i64 d)) from below_set HB.out G10.out)
        clear B10 B1 B2 B5 B6 B8 HN HT HB
        have B10 := X10
        have B1 := XB1
        have B2 := XB2
        have B5 := XB5
        have B6 := XB6
        have B8 := XB8
        have HN := XHN
        have HT := XHT
        have HB := XB
        clear X10 XB1 XB2 XB5 XB6 XB8 XHN XHT XB
        generalize m1.setCell ⟨g10, 1, none⟩ (.int .i64 d) = m2 at *
        go_upto_region 14 with (go_at_call 36; refine (next_calls g6 g1 g5 s at5 bad5 3 e_ at6 bad6 TE.out _ (by (with_reducible repeat (first | refine blk_drewN ?_ _ | refine blk_drew ?_ | refine blk_alloc ?_ _)); exact B6.out) (by (with_reducible repeat (first | refine blk_drewN ?_ _ | refine blk_drew ?_ | refine blk_alloc ?_ _)); exact B1.out) (by (with_reducible repeat (first | refine blk_drewN ?_ _ | refine blk_drew ?_ | refine blk_alloc ?_ _)); exact B5.out) w (by repeat (first | (with_reducible first | exact HB.out | apply below_alloc | apply pw_below_drewN | apply below_drew1 | refine below_set ?_ G2.out | refine below_set ?_ G8.out | refine below_set ?_ G10.out | refine below_set ?_ G5.out | refine below_set ?_ G6.out) | exact HB.out)) G6.out G5.out).mono ?_; rintro e m3 ⟨rfl, h6_, h5_, hs_, hk_, hb_⟩; have X6 := Aside0.mk h6_; have X5 := Aside0.mk h5_; have XB1 := Aside0.mk (keep_blk (g := g1) (o := .cells #[.string s] 9 (0, 0)) hk_ (by (with_reducible repeat (first | refine blk_drewN ?_ _ | refine blk_drew ?_ | refine blk_alloc ?_ _)); exact B1.out) N16.out N15.out); have XB2 := Aside0.mk (keep_blk (g := g2) (o := .cells #[.string (⟨#[]⟩ : ByteArray), .slice none 0 0] 24 (0, 0)) hk_ (by (with_reducible repeat (first | refine blk_drewN ?_ _ | refine blk_drew ?_ | refine blk_alloc ?_ _)); exact B2.out) N26.out N25.out); have XB8 := Aside0.mk (keep_blk (g := g8) (o := .cells #[.string nm, vT] 24 (0, 0)) hk_ (by (with_reducible repeat (first | refine blk_drewN ?_ _ | refine blk_drew ?_ | refine blk_alloc ?_ _)); exact B8.out) N86.out N85.out); have XB10 := Aside0.mk (keep_blk (g := g10) (o := .cells #[vN, .int .i64 d, .int .i64 0, .int .i64 0] 39 (0, 0)) hk_ (by (with_reducible repeat (first | refine blk_drewN ?_ _ | refine blk_drew ?_ | refine blk_alloc ?_ _)); exact B10.out) N106.out N105.out); have XHN := Aside0.mk (keep_R (d := Kd.int .i64) (e := 3) (base := w.heap.size) (ok := (fun k_ => k_ ≠ g5)) (v := vN) (xs := L) hk_ (by (with_reducible repeat (first | apply Kd.R_alloc | apply Kd.R_drewN | apply Kd.R_drew)); exact HN.out) (by (with_reducible repeat (first | refine blk_drewN ?_ _ | refine blk_drew ?_ | refine blk_alloc ?_ _)); exact B6.out) (by decide) (fun _ h_ => h_)); have XHT := Aside0.mk (keep_S (d := k39) (e := 39) (base := w.heap.size) (ok := (fun k_ => (k_ ≠ g5 ∧ k_ ≠ g10) ∧ some k_ ≠ (vN : Value).ownBlock)) (v := vT) (xs := T) hk_ (by (with_reducible repeat (first | apply Kd.S_alloc | apply Kd.S_drewN | apply Kd.S_drew)); exact HT.out) (by (with_reducible repeat (first | refine blk_drewN ?_ _ | refine blk_drew ?_ | refine blk_alloc ?_ _)); exact B6.out) (by decide) (fun _ h_ => h_.1.1)); have XB := Aside0.mk hb_; clear h6_ h5_ hs_ hk_ hb_; clear B6 B5 B1 B2 B8 B10 HN HT HB; have B6 := X6; have B5 := X5; have B1 := XB1; have B2 := XB2; have B8 := XB8; have B10 := XB10; have HN := XHN; have HT := XHT; have HB := XB; clear X6 X5 XB1 XB2 XB8 XB10 XHN XHT XB; have d2 : m3.cell? ⟨g10, 2, none⟩ = some (.int .i64 0) := (blk_cell B10.out 2).trans rfl; have e2 := blk_frozen B10.out 2)
        clear d2 e2
        have X10 := Aside0.mk (show (m3.setCell ⟨g10, 2, none⟩ (.int .i64 e_)).heap[g10]? = some (.cells #[vN, .int .i64 d, .int .i64 e_, .int .i64 0] 39 (0, 0)) from blk_put (cs := #[vN, .int .i64 d, .int .i64 0, .int .i64 0]) B10.out 2 _ rfl)
        have XB1 := Aside0.mk (show (m3.setCell ⟨g10, 2, none⟩ (.int .i64 e_)).heap[g1]? = some (.cells #[.string s] 9 (0, 0)) from blk_far B1.out N110.out _)
        have XB2 := Aside0.mk (show (m3.setCell ⟨g10, 2, none⟩ (.int .i64 e_)).heap[g2]? = some (.cells #[.string (⟨#[]⟩ : ByteArray), .slice none 0 0] 24 (0, 0)) from blk_far B2.out N210.out _)
        have XB5 := Aside0.mk (show (m3.setCell ⟨g10, 2, none⟩ (.int .i64 e_)).heap[g5]? = some (.cells #[.int .i64 at6] 3 (0, 0)) from blk_far B5.out N510.out _)
        have XB6 := Aside0.mk (show (m3.setCell ⟨g10, 2, none⟩ (.int .i64 e_)).heap[g6]? = some (.cells #[.int .i64 bad6] 27 (0, 0)) from blk_far B6.out N610.out _)
        have XB8 := Aside0.mk (show (m3.setCell ⟨g10, 2, none⟩ (.int .i64 e_)).heap[g8]? = some (.cells #[.string nm, vT] 24 (0, 0)) from blk_far B8.out N810.out _)
        have XHN := Aside0.mk (show Kd.R (Kd.int .i64) 3 (m3.setCell ⟨g10, 2, none⟩ (.int .i64 e_)) w.heap.size (fun k_ => k_ ≠ g5) (vN) (L) from Kd.R_mono (Kd.R_far (p := ⟨g10, 2, none⟩) (Kd.R_types HN.out B10.out (by decide)) (fun _ h_ => h_.2) (.int .i64 e_)) (fun _ h_ => h_.1))
        have XHT := Aside0.mk (show Kd.S k39 39 (m3.setCell ⟨g10, 2, none⟩ (.int .i64 e_)) w.heap.size (fun k_ => (k_ ≠ g5 ∧ k_ ≠ g10) ∧ some k_ ≠ (vN : Value).ownBlock) (vT) (T) from Kd.S_far (p := ⟨g10, 2, none⟩) HT.out (fun _ h_ => h_.1.2) (.int .i64 e_))
        have XB := Aside0.mk (show Below w.heap.size w (m3.setCell ⟨g10, 2, none⟩ (.int .i64 e_)) from below_set HB.out G10.out)
        clear B10 B1 B2 B5 B6 B8 HN HT HB
        have B10 := X10
        have B1 := XB1
        have B2 := XB2
        have B5 := XB5
        have B6 := XB6
        have B8 := XB8
        have HN := XHN
        have HT := XHT
        have HB := XB
        clear X10 XB1 XB2 XB5 XB6 XB8 XHN XHT XB
        generalize m3.setCell ⟨g10, 2, none⟩ (.int .i64 e_) = m4 at *
        go_upto_region 15 with (go_at_call 36; refine (next_calls g6 g1 g5 s at6 bad6 3 g_ at7 bad7 TG.out _ (by (with_reducible repeat (first | refine blk_drewN ?_ _ | refine blk_drew ?_ | refine blk_alloc ?_ _)); exact B6.out) (by (with_reducible repeat (first | refine blk_drewN ?_ _ | refine blk_drew ?_ | refine blk_alloc ?_ _)); exact B1.out) (by (with_reducible repeat (first | refine blk_drewN ?_ _ | refine blk_drew ?_ | refine blk_alloc ?_ _)); exact B5.out) w (by repeat (first | (with_reducible first | exact HB.out | apply below_alloc | apply pw_below_drewN | apply below_drew1 | refine below_set ?_ G2.out | refine below_set ?_ G8.out | refine below_set ?_ G10.out | refine below_set ?_ G5.out | refine below_set ?_ G6.out) | exact HB.out)) G6.out G5.out).mono ?_; rintro e m5 ⟨rfl, h6_, h5_, hs_, hk_, hb_⟩; have X6 := Aside0.mk h6_; have X5 := Aside0.mk h5_; have XB1 := Aside0.mk (keep_blk (g := g1) (o := .cells #[.string s] 9 (0, 0)) hk_ (by (with_reducible repeat (first | refine blk_drewN ?_ _ | refine blk_drew ?_ | refine blk_alloc ?_ _)); exact B1.out) N16.out N15.out); have XB2 := Aside0.mk (keep_blk (g := g2) (o := .cells #[.string (⟨#[]⟩ : ByteArray), .slice none 0 0] 24 (0, 0)) hk_ (by (with_reducible repeat (first | refine blk_drewN ?_ _ | refine blk_drew ?_ | refine blk_alloc ?_ _)); exact B2.out) N26.out N25.out); have XB8 := Aside0.mk (keep_blk (g := g8) (o := .cells #[.string nm, vT] 24 (0, 0)) hk_ (by (with_reducible repeat (first | refine blk_drewN ?_ _ | refine blk_drew ?_ | refine blk_alloc ?_ _)); exact B8.out) N86.out N85.out); have XB10 := Aside0.mk (keep_blk (g := g10) (o := .cells #[vN, .int .i64 d, .int .i64 e_, .int .i64 0] 39 (0, 0)) hk_ (by (with_reducible repeat (first | refine blk_drewN ?_ _ | refine blk_drew ?_ | refine blk_alloc ?_ _)); exact B10.out) N106.out N105.out); have XHN := Aside0.mk (keep_R (d := Kd.int .i64) (e := 3) (base := w.heap.size) (ok := (fun k_ => k_ ≠ g5)) (v := vN) (xs := L) hk_ (by (with_reducible repeat (first | apply Kd.R_alloc | apply Kd.R_drewN | apply Kd.R_drew)); exact HN.out) (by (with_reducible repeat (first | refine blk_drewN ?_ _ | refine blk_drew ?_ | refine blk_alloc ?_ _)); exact B6.out) (by decide) (fun _ h_ => h_)); have XHT := Aside0.mk (keep_S (d := k39) (e := 39) (base := w.heap.size) (ok := (fun k_ => (k_ ≠ g5 ∧ k_ ≠ g10) ∧ some k_ ≠ (vN : Value).ownBlock)) (v := vT) (xs := T) hk_ (by (with_reducible repeat (first | apply Kd.S_alloc | apply Kd.S_drewN | apply Kd.S_drew)); exact HT.out) (by (with_reducible repeat (first | refine blk_drewN ?_ _ | refine blk_drew ?_ | refine blk_alloc ?_ _)); exact B6.out) (by decide) (fun _ h_ => h_.1.1)); have XB := Aside0.mk hb_; clear h6_ h5_ hs_ hk_ hb_; clear B6 B5 B1 B2 B8 B10 HN HT HB; have B6 := X6; have B5 := X5; have B1 := XB1; have B2 := XB2; have B8 := XB8; have B10 := XB10; have HN := XHN; have HT := XHT; have HB := XB; clear X6 X5 XB1 XB2 XB8 XB10 XHN XHT XB; have d3 : m5.cell? ⟨g10, 3, none⟩ = some (.int .i64 0) := (blk_cell B10.out 3).trans rfl; have e3 := blk_frozen B10.out 3)
        clear d3 e3
        have X10 := Aside0.mk (show (m5.setCell ⟨g10, 3, none⟩ (.int .i64 g_)).heap[g10]? = some (.cells #[vN, .int .i64 d, .int .i64 e_, .int .i64 g_] 39 (0, 0)) from blk_put (cs := #[vN, .int .i64 d, .int .i64 e_, .int .i64 0]) B10.out 3 _ rfl)
        have XB1 := Aside0.mk (show (m5.setCell ⟨g10, 3, none⟩ (.int .i64 g_)).heap[g1]? = some (.cells #[.string s] 9 (0, 0)) from blk_far B1.out N110.out _)
        have XB2 := Aside0.mk (show (m5.setCell ⟨g10, 3, none⟩ (.int .i64 g_)).heap[g2]? = some (.cells #[.string (⟨#[]⟩ : ByteArray), .slice none 0 0] 24 (0, 0)) from blk_far B2.out N210.out _)
        have XB5 := Aside0.mk (show (m5.setCell ⟨g10, 3, none⟩ (.int .i64 g_)).heap[g5]? = some (.cells #[.int .i64 at7] 3 (0, 0)) from blk_far B5.out N510.out _)
        have XB6 := Aside0.mk (show (m5.setCell ⟨g10, 3, none⟩ (.int .i64 g_)).heap[g6]? = some (.cells #[.int .i64 bad7] 27 (0, 0)) from blk_far B6.out N610.out _)
        have XB8 := Aside0.mk (show (m5.setCell ⟨g10, 3, none⟩ (.int .i64 g_)).heap[g8]? = some (.cells #[.string nm, vT] 24 (0, 0)) from blk_far B8.out N810.out _)
        have XHN := Aside0.mk (show Kd.R (Kd.int .i64) 3 (m5.setCell ⟨g10, 3, none⟩ (.int .i64 g_)) w.heap.size (fun k_ => k_ ≠ g5) (vN) (L) from Kd.R_mono (Kd.R_far (p := ⟨g10, 3, none⟩) (Kd.R_types HN.out B10.out (by decide)) (fun _ h_ => h_.2) (.int .i64 g_)) (fun _ h_ => h_.1))
        have XHT := Aside0.mk (show Kd.S k39 39 (m5.setCell ⟨g10, 3, none⟩ (.int .i64 g_)) w.heap.size (fun k_ => (k_ ≠ g5 ∧ k_ ≠ g10) ∧ some k_ ≠ (vN : Value).ownBlock) (vT) (T) from Kd.S_far (p := ⟨g10, 3, none⟩) HT.out (fun _ h_ => h_.1.2) (.int .i64 g_))
        have XB := Aside0.mk (show Below w.heap.size w (m5.setCell ⟨g10, 3, none⟩ (.int .i64 g_)) from below_set HB.out G10.out)
        clear B10 B1 B2 B5 B6 B8 HN HT HB
        have B10 := X10
        have B1 := XB1
        have B2 := XB2
        have B5 := XB5
        have B6 := XB6
        have B8 := XB8
        have HN := XHN
        have HT := XHT
        have HB := XB
        clear X10 XB1 XB2 XB5 XB6 XB8 XHN XHT XB
        generalize m5.setCell ⟨g10, 3, none⟩ (.int .i64 g_) = m6 at *
        have t0 : m6.cell? ⟨g10, 0, none⟩ = some (vN) := (blk_cell B10.out 0).trans rfl
        have t1 : m6.cell? ⟨g10, 1, none⟩ = some (.int .i64 d) := (blk_cell B10.out 1).trans rfl
        have t2 : m6.cell? ⟨g10, 2, none⟩ = some (.int .i64 e_) := (blk_cell B10.out 2).trans rfl
        have t3 : m6.cell? ⟨g10, 3, none⟩ = some (.int .i64 g_) := (blk_cell B10.out 3).trans rfl
        have u1 : m6.cell? ⟨g8, 1, none⟩ = some (vT) := (blk_cell B8.out 1).trans rfl
        go_upto_region 6 with ((with_reducible refine gate_builtin (b := .append) (xs := #[.tmp 59, .tmp 61]) rfl ?_); at_builtin; refine Kd.S_append k39 (w0 := w) w.heap.size rfl (.tmp 59) (.tmp 61) 22 39 (.agg #[.slice none 0 0, .int .i64 0, .int .i64 0, .int .i64 0]) 48 rfl Try.underlying22 infG39 rfl (by decide) (by decide) vT T (⟨L, d, e_, g_⟩ : S39) [vN, .int .i64 d, .int .i64 e_, .int .i64 g_] (fun k_ => k_ ≠ g5) (fun k_ => some k_ = vN.ownBlock) rfl rfl ?aP ?aK ?aF ?aO ?aB ?aS ?aL ?_; (case aP => exact app_hp (by (with_reducible repeat (first | apply Kd.R_alloc | apply Kd.R_drewN | apply Kd.R_drew)); exact HN.out)); (case aK => exact app_hk HN.out HT.out); (case aF => exact (fun k_ hk_ => Nat.ne_of_gt (Nat.lt_of_lt_of_le (blk_lt (o := .cells #[.int .i64 at7] 3 (0, 0)) (by (with_reducible repeat (first | refine blk_drewN ?_ _ | refine blk_drew ?_ | refine blk_alloc ?_ _)); exact B5.out)) hk_))); (case aO => exact Kd.S_mono (ok := (fun k_ => (k_ ≠ g5 ∧ k_ ≠ g10) ∧ some k_ ≠ (vN : Value).ownBlock)) (by (with_reducible repeat (first | apply Kd.S_alloc | apply Kd.S_drewN | apply Kd.S_drew)); exact HT.out) (fun _ h_ => ⟨h_.1.1, h_.2⟩)); (case aB => exact (by repeat (first | (with_reducible first | exact HB.out | apply below_alloc | apply pw_below_drewN | apply below_drew1 | refine below_set ?_ G2.out | refine below_set ?_ G8.out | refine below_set ?_ G10.out | refine below_set ?_ G5.out | refine below_set ?_ G6.out) | exact HB.out))); (case aS => exact (below_size (by repeat (first | (with_reducible first | exact HB.out | apply below_alloc | apply pw_below_drewN | apply below_drew1 | refine below_set ?_ G2.out | refine below_set ?_ G8.out | refine below_set ?_ G10.out | refine below_set ?_ G5.out | refine below_set ?_ G6.out) | exact HB.out)))); (case aL => (have := LT.out.1; omega)); intro y_ m7 ho hb hg hat; obtain ⟨Ay, ny, cy, ey⟩ : ∃ A n c, y_ = .slice A n c := (Kd.S_slice ho).elim fun A h => h.elim fun c h => ⟨A, _, c, h⟩; subst ey; have XB1 := Aside0.mk (blk_grown (g := g1) (o := .cells #[.string s] 9 (0, 0)) (by (with_reducible repeat (first | refine blk_drewN ?_ _ | refine blk_drew ?_ | refine blk_alloc ?_ _)); exact B1.out) hg (Kd.S_ne HT.out B1.out (by decide))); have XB2 := Aside0.mk (blk_grown (g := g2) (o := .cells #[.string (⟨#[]⟩ : ByteArray), .slice none 0 0] 24 (0, 0)) (by (with_reducible repeat (first | refine blk_drewN ?_ _ | refine blk_drew ?_ | refine blk_alloc ?_ _)); exact B2.out) hg (Kd.S_ne HT.out B2.out (by decide))); have XB5 := Aside0.mk (blk_grown (g := g5) (o := .cells #[.int .i64 at7] 3 (0, 0)) (by (with_reducible repeat (first | refine blk_drewN ?_ _ | refine blk_drew ?_ | refine blk_alloc ?_ _)); exact B5.out) hg (Kd.S_ne HT.out B5.out (by decide))); have XB6 := Aside0.mk (blk_grown (g := g6) (o := .cells #[.int .i64 bad7] 27 (0, 0)) (by (with_reducible repeat (first | refine blk_drewN ?_ _ | refine blk_drew ?_ | refine blk_alloc ?_ _)); exact B6.out) hg (Kd.S_ne HT.out B6.out (by decide))); have XB8 := Aside0.mk (blk_grown (g := g8) (o := .cells #[.string nm, vT] 24 (0, 0)) (by (with_reducible repeat (first | refine blk_drewN ?_ _ | refine blk_drew ?_ | refine blk_alloc ?_ _)); exact B8.out) hg (Kd.S_ne HT.out B8.out (by decide))); have XB := Aside0.mk hb; have XHT := Aside0.mk ho; clear ho hb hg hat HN B10 t0 t1 t2 t3 u1; clear HT HB B1 B2 B5 B6 B8; have HT := XHT; have HB := XB; have B1 := XB1; have B2 := XB2; have B5 := XB5; have B6 := XB6; have B8 := XB8; clear XHT XB XB1 XB2 XB5 XB6 XB8; have u1 : m7.cell? ⟨g8, 1, none⟩ = some (vT) := (blk_cell B8.out 1).trans rfl; have f8 := blk_frozen B8.out 1)
        have X8 := Aside0.mk (show (m7.setCell ⟨g8, 1, none⟩ (.slice Ay ny cy)).heap[g8]? = some (.cells #[.string nm, .slice Ay ny cy] 24 (0, 0)) from blk_put (cs := #[.string nm, vT]) B8.out 1 _ rfl)
        have XB1 := Aside0.mk (show (m7.setCell ⟨g8, 1, none⟩ (.slice Ay ny cy)).heap[g1]? = some (.cells #[.string s] 9 (0, 0)) from blk_far B1.out N18.out _)
        have XB2 := Aside0.mk (show (m7.setCell ⟨g8, 1, none⟩ (.slice Ay ny cy)).heap[g2]? = some (.cells #[.string (⟨#[]⟩ : ByteArray), .slice none 0 0] 24 (0, 0)) from blk_far B2.out N28.out _)
        have XB5 := Aside0.mk (show (m7.setCell ⟨g8, 1, none⟩ (.slice Ay ny cy)).heap[g5]? = some (.cells #[.int .i64 at7] 3 (0, 0)) from blk_far B5.out N58.out _)
        have XB6 := Aside0.mk (show (m7.setCell ⟨g8, 1, none⟩ (.slice Ay ny cy)).heap[g6]? = some (.cells #[.int .i64 bad7] 27 (0, 0)) from blk_far B6.out N68.out _)
        have XHT := Aside0.mk (show Kd.S k39 39 (m7.setCell ⟨g8, 1, none⟩ (.slice Ay ny cy)) w.heap.size (fun k_ => k_ ≠ g5) (.slice Ay ny cy) (T ++ [⟨L, d, e_, g_⟩]) from Kd.S_mono (Kd.S_far (p := ⟨g8, 1, none⟩) (Kd.S_types HT.out B8.out (by decide)) (fun _ h_ => h_.2) (.slice Ay ny cy)) (fun _ h_ => h_.1))
        have XB := Aside0.mk (show Below w.heap.size w (m7.setCell ⟨g8, 1, none⟩ (.slice Ay ny cy)) from below_set HB.out G8.out)
        clear u1 f8
        clear B8 B1 B2 B5 B6 HT HB
        have B8 := X8
        have B1 := XB1
        have B2 := XB2
        have B5 := XB5
        have B6 := XB6
        have HT := XHT
        have HB := XB
        clear X8 XB1 XB2 XB5 XB6 XHT XB
        generalize m7.setCell ⟨g8, 1, none⟩ (.slice Ay ny cy) = m8 at *
        go_wp2
        go_roundg k2
        case rel => exact ⟨_, at7, bad7, _, _, rfl, HSO, HT, B1, B2, B5, B6, B8, HB⟩
        case measure => omega
      rw [if_pos cc1] at hn
      by_cases cc2 : badn = 0
      case neg =>
        rw [if_neg cc2] at hn
        have cc2b : (badn == 0) = false := beq_eq_false_iff_ne.mpr cc2
        simp only [Option.some.injEq, Prod.mk.injEq] at hn
        obtain ⟨rfl, rfl, rfl⟩ := hn
        go_upto_region 13 with (go_at_call 36; refine (next_calls g6 g1 g5 s atn badn 1 d at5 bad5 TD.out _ (by (with_reducible repeat (first | refine blk_drewN ?_ _ | refine blk_drew ?_ | refine blk_alloc ?_ _)); exact B6.out) (by (with_reducible repeat (first | refine blk_drewN ?_ _ | refine blk_drew ?_ | refine blk_alloc ?_ _)); exact B1.out) (by (with_reducible repeat (first | refine blk_drewN ?_ _ | refine blk_drew ?_ | refine blk_alloc ?_ _)); exact B5.out) w (by repeat (first | (with_reducible first | exact HB.out | apply below_alloc | apply pw_below_drewN | apply below_drew1 | refine below_set ?_ G2.out | refine below_set ?_ G8.out | refine below_set ?_ G10.out | refine below_set ?_ G5.out | refine below_set ?_ G6.out) | exact HB.out)) G6.out G5.out).mono ?_; rintro e m1 ⟨rfl, h6_, h5_, hs_, hk_, hb_⟩; have X6 := Aside0.mk h6_; have X5 := Aside0.mk h5_; have XB1 := Aside0.mk (keep_blk (g := g1) (o := .cells #[.string s] 9 (0, 0)) hk_ (by (with_reducible repeat (first | refine blk_drewN ?_ _ | refine blk_drew ?_ | refine blk_alloc ?_ _)); exact B1.out) N16.out N15.out); have XB2 := Aside0.mk (keep_blk (g := g2) (o := .cells #[.string (⟨#[]⟩ : ByteArray), .slice none 0 0] 24 (0, 0)) hk_ (by (with_reducible repeat (first | refine blk_drewN ?_ _ | refine blk_drew ?_ | refine blk_alloc ?_ _)); exact B2.out) N26.out N25.out); have XB8 := Aside0.mk (keep_blk (g := g8) (o := .cells #[.string nm, vT] 24 (0, 0)) hk_ (by (with_reducible repeat (first | refine blk_drewN ?_ _ | refine blk_drew ?_ | refine blk_alloc ?_ _)); exact B8.out) N86.out N85.out); have XB10 := Aside0.mk (keep_blk (g := g10) (o := .cells #[vN, .int .i64 0, .int .i64 0, .int .i64 0] 39 (0, 0)) hk_ (by (with_reducible repeat (first | refine blk_drewN ?_ _ | refine blk_drew ?_ | refine blk_alloc ?_ _)); exact B10.out) N106.out N105.out); have XHN := Aside0.mk (keep_R (d := Kd.int .i64) (e := 3) (base := w.heap.size) (ok := (fun k_ => k_ ≠ g5)) (v := vN) (xs := L) hk_ (by (with_reducible repeat (first | apply Kd.R_alloc | apply Kd.R_drewN | apply Kd.R_drew)); exact HN.out) (by (with_reducible repeat (first | refine blk_drewN ?_ _ | refine blk_drew ?_ | refine blk_alloc ?_ _)); exact B6.out) (by decide) (fun _ h_ => h_)); have XHT := Aside0.mk (keep_S (d := k39) (e := 39) (base := w.heap.size) (ok := (fun k_ => (k_ ≠ g5 ∧ k_ ≠ g10) ∧ some k_ ≠ (vN : Value).ownBlock)) (v := vT) (xs := T) hk_ (by (with_reducible repeat (first | apply Kd.S_alloc | apply Kd.S_drewN | apply Kd.S_drew)); exact HT.out) (by (with_reducible repeat (first | refine blk_drewN ?_ _ | refine blk_drew ?_ | refine blk_alloc ?_ _)); exact B6.out) (by decide) (fun _ h_ => h_.1.1)); have XB := Aside0.mk hb_; clear h6_ h5_ hs_ hk_ hb_; clear B6 B5 B1 B2 B8 B10 HN HT HB; have B6 := X6; have B5 := X5; have B1 := XB1; have B2 := XB2; have B8 := XB8; have B10 := XB10; have HN := XHN; have HT := XHT; have HB := XB; clear X6 X5 XB1 XB2 XB8 XB10 XHN XHT XB; have d1 : m1.cell? ⟨g10, 1, none⟩ = some (.int .i64 0) := (blk_cell B10.out 1).trans rfl; have e1 := blk_frozen B10.out 1)
        clear d1 e1
        have X10 := Aside0.mk (show (m1.setCell ⟨g10, 1, none⟩ (.int .i64 d)).heap[g10]? = some (.cells #[vN, .int .i64 d, .int .i64 0, .int .i64 0] 39 (0, 0)) from blk_put (cs := #[vN, .int .i64 0, .int .i64 0, .int .i64 0]) B10.out 1 _ rfl)
        have XB1 := Aside0.mk (show (m1.setCell ⟨g10, 1, none⟩ (.int .i64 d)).heap[g1]? = some (.cells #[.string s] 9 (0, 0)) from blk_far B1.out N110.out _)
        have XB2 := Aside0.mk (show (m1.setCell ⟨g10, 1, none⟩ (.int .i64 d)).heap[g2]? = some (.cells #[.string (⟨#[]⟩ : ByteArray), .slice none 0 0] 24 (0, 0)) from blk_far B2.out N210.out _)
        have XB5 := Aside0.mk (show (m1.setCell ⟨g10, 1, none⟩ (.int .i64 d)).heap[g5]? = some (.cells #[.int .i64 at5] 3 (0, 0)) from blk_far B5.out N510.out _)
        have XB6 := Aside0.mk (show (m1.setCell ⟨g10, 1, none⟩ (.int .i64 d)).heap[g6]? = some (.cells #[.int .i64 bad5] 27 (0, 0)) from blk_far B6.out N610.out _)
        have XB8 := Aside0.mk (show (m1.setCell ⟨g10, 1, none⟩ (.int .i64 d)).heap[g8]? = some (.cells #[.string nm, vT] 24 (0, 0)) from blk_far B8.out N810.out _)
        have XHN := Aside0.mk (show Kd.R (Kd.int .i64) 3 (m1.setCell ⟨g10, 1, none⟩ (.int .i64 d)) w.heap.size (fun k_ => k_ ≠ g5) (vN) (L) from Kd.R_mono (Kd.R_far (p := ⟨g10, 1, none⟩) (Kd.R_types HN.out B10.out (by decide)) (fun _ h_ => h_.2) (.int .i64 d)) (fun _ h_ => h_.1))
        have XHT := Aside0.mk (show Kd.S k39 39 (m1.setCell ⟨g10, 1, none⟩ (.int .i64 d)) w.heap.size (fun k_ => (k_ ≠ g5 ∧ k_ ≠ g10) ∧ some k_ ≠ (vN : Value).ownBlock) (vT) (T) from Kd.S_far (p := ⟨g10, 1, none⟩) HT.out (fun _ h_ => h_.1.2) (.int .i64 d))
        have XB := Aside0.mk (show Below w.heap.size w (m1.setCell ⟨g10, 1, none⟩ (.int .i64 d)) from below_set HB.out G10.out)
        clear B10 B1 B2 B5 B6 B8 HN HT HB
        have B10 := X10
        have B1 := XB1
        have B2 := XB2
        have B5 := XB5
        have B6 := XB6
        have B8 := XB8
        have HN := XHN
        have HT := XHT
        have HB := XB
        clear X10 XB1 XB2 XB5 XB6 XB8 XHN XHT XB
        generalize m1.setCell ⟨g10, 1, none⟩ (.int .i64 d) = m2 at *
        go_upto_region 14 with (go_at_call 36; refine (next_calls g6 g1 g5 s at5 bad5 3 e_ at6 bad6 TE.out _ (by (with_reducible repeat (first | refine blk_drewN ?_ _ | refine blk_drew ?_ | refine blk_alloc ?_ _)); exact B6.out) (by (with_reducible repeat (first | refine blk_drewN ?_ _ | refine blk_drew ?_ | refine blk_alloc ?_ _)); exact B1.out) (by (with_reducible repeat (first | refine blk_drewN ?_ _ | refine blk_drew ?_ | refine blk_alloc ?_ _)); exact B5.out) w (by repeat (first | (with_reducible first | exact HB.out | apply below_alloc | apply pw_below_drewN | apply below_drew1 | refine below_set ?_ G2.out | refine below_set ?_ G8.out | refine below_set ?_ G10.out | refine below_set ?_ G5.out | refine below_set ?_ G6.out) | exact HB.out)) G6.out G5.out).mono ?_; rintro e m3 ⟨rfl, h6_, h5_, hs_, hk_, hb_⟩; have X6 := Aside0.mk h6_; have X5 := Aside0.mk h5_; have XB1 := Aside0.mk (keep_blk (g := g1) (o := .cells #[.string s] 9 (0, 0)) hk_ (by (with_reducible repeat (first | refine blk_drewN ?_ _ | refine blk_drew ?_ | refine blk_alloc ?_ _)); exact B1.out) N16.out N15.out); have XB2 := Aside0.mk (keep_blk (g := g2) (o := .cells #[.string (⟨#[]⟩ : ByteArray), .slice none 0 0] 24 (0, 0)) hk_ (by (with_reducible repeat (first | refine blk_drewN ?_ _ | refine blk_drew ?_ | refine blk_alloc ?_ _)); exact B2.out) N26.out N25.out); have XB8 := Aside0.mk (keep_blk (g := g8) (o := .cells #[.string nm, vT] 24 (0, 0)) hk_ (by (with_reducible repeat (first | refine blk_drewN ?_ _ | refine blk_drew ?_ | refine blk_alloc ?_ _)); exact B8.out) N86.out N85.out); have XB10 := Aside0.mk (keep_blk (g := g10) (o := .cells #[vN, .int .i64 d, .int .i64 0, .int .i64 0] 39 (0, 0)) hk_ (by (with_reducible repeat (first | refine blk_drewN ?_ _ | refine blk_drew ?_ | refine blk_alloc ?_ _)); exact B10.out) N106.out N105.out); have XHN := Aside0.mk (keep_R (d := Kd.int .i64) (e := 3) (base := w.heap.size) (ok := (fun k_ => k_ ≠ g5)) (v := vN) (xs := L) hk_ (by (with_reducible repeat (first | apply Kd.R_alloc | apply Kd.R_drewN | apply Kd.R_drew)); exact HN.out) (by (with_reducible repeat (first | refine blk_drewN ?_ _ | refine blk_drew ?_ | refine blk_alloc ?_ _)); exact B6.out) (by decide) (fun _ h_ => h_)); have XHT := Aside0.mk (keep_S (d := k39) (e := 39) (base := w.heap.size) (ok := (fun k_ => (k_ ≠ g5 ∧ k_ ≠ g10) ∧ some k_ ≠ (vN : Value).ownBlock)) (v := vT) (xs := T) hk_ (by (with_reducible repeat (first | apply Kd.S_alloc | apply Kd.S_drewN | apply Kd.S_drew)); exact HT.out) (by (with_reducible repeat (first | refine blk_drewN ?_ _ | refine blk_drew ?_ | refine blk_alloc ?_ _)); exact B6.out) (by decide) (fun _ h_ => h_.1.1)); have XB := Aside0.mk hb_; clear h6_ h5_ hs_ hk_ hb_; clear B6 B5 B1 B2 B8 B10 HN HT HB; have B6 := X6; have B5 := X5; have B1 := XB1; have B2 := XB2; have B8 := XB8; have B10 := XB10; have HN := XHN; have HT := XHT; have HB := XB; clear X6 X5 XB1 XB2 XB8 XB10 XHN XHT XB; have d2 : m3.cell? ⟨g10, 2, none⟩ = some (.int .i64 0) := (blk_cell B10.out 2).trans rfl; have e2 := blk_frozen B10.out 2)
        clear d2 e2
        have X10 := Aside0.mk (show (m3.setCell ⟨g10, 2, none⟩ (.int .i64 e_)).heap[g10]? = some (.cells #[vN, .int .i64 d, .int .i64 e_, .int .i64 0] 39 (0, 0)) from blk_put (cs := #[vN, .int .i64 d, .int .i64 0, .int .i64 0]) B10.out 2 _ rfl)
        have XB1 := Aside0.mk (show (m3.setCell ⟨g10, 2, none⟩ (.int .i64 e_)).heap[g1]? = some (.cells #[.string s] 9 (0, 0)) from blk_far B1.out N110.out _)
        have XB2 := Aside0.mk (show (m3.setCell ⟨g10, 2, none⟩ (.int .i64 e_)).heap[g2]? = some (.cells #[.string (⟨#[]⟩ : ByteArray), .slice none 0 0] 24 (0, 0)) from blk_far B2.out N210.out _)
        have XB5 := Aside0.mk (show (m3.setCell ⟨g10, 2, none⟩ (.int .i64 e_)).heap[g5]? = some (.cells #[.int .i64 at6] 3 (0, 0)) from blk_far B5.out N510.out _)
        have XB6 := Aside0.mk (show (m3.setCell ⟨g10, 2, none⟩ (.int .i64 e_)).heap[g6]? = some (.cells #[.int .i64 bad6] 27 (0, 0)) from blk_far B6.out N610.out _)
        have XB8 := Aside0.mk (show (m3.setCell ⟨g10, 2, none⟩ (.int .i64 e_)).heap[g8]? = some (.cells #[.string nm, vT] 24 (0, 0)) from blk_far B8.out N810.out _)
        have XHN := Aside0.mk (show Kd.R (Kd.int .i64) 3 (m3.setCell ⟨g10, 2, none⟩ (.int .i64 e_)) w.heap.size (fun k_ => k_ ≠ g5) (vN) (L) from Kd.R_mono (Kd.R_far (p := ⟨g10, 2, none⟩) (Kd.R_types HN.out B10.out (by decide)) (fun _ h_ => h_.2) (.int .i64 e_)) (fun _ h_ => h_.1))
        have XHT := Aside0.mk (show Kd.S k39 39 (m3.setCell ⟨g10, 2, none⟩ (.int .i64 e_)) w.heap.size (fun k_ => (k_ ≠ g5 ∧ k_ ≠ g10) ∧ some k_ ≠ (vN : Value).ownBlock) (vT) (T) from Kd.S_far (p := ⟨g10, 2, none⟩) HT.out (fun _ h_ => h_.1.2) (.int .i64 e_))
        have XB := Aside0.mk (show Below w.heap.size w (m3.setCell ⟨g10, 2, none⟩ (.int .i64 e_)) from below_set HB.out G10.out)
        clear B10 B1 B2 B5 B6 B8 HN HT HB
        have B10 := X10
        have B1 := XB1
        have B2 := XB2
        have B5 := XB5
        have B6 := XB6
        have B8 := XB8
        have HN := XHN
        have HT := XHT
        have HB := XB
        clear X10 XB1 XB2 XB5 XB6 XB8 XHN XHT XB
        generalize m3.setCell ⟨g10, 2, none⟩ (.int .i64 e_) = m4 at *
        go_upto_region 15 with (go_at_call 36; refine (next_calls g6 g1 g5 s at6 bad6 3 g_ at7 bad7 TG.out _ (by (with_reducible repeat (first | refine blk_drewN ?_ _ | refine blk_drew ?_ | refine blk_alloc ?_ _)); exact B6.out) (by (with_reducible repeat (first | refine blk_drewN ?_ _ | refine blk_drew ?_ | refine blk_alloc ?_ _)); exact B1.out) (by (with_reducible repeat (first | refine blk_drewN ?_ _ | refine blk_drew ?_ | refine blk_alloc ?_ _)); exact B5.out) w (by repeat (first | (with_reducible first | exact HB.out | apply below_alloc | apply pw_below_drewN | apply below_drew1 | refine below_set ?_ G2.out | refine below_set ?_ G8.out | refine below_set ?_ G10.out | refine below_set ?_ G5.out | refine below_set ?_ G6.out) | exact HB.out)) G6.out G5.out).mono ?_; rintro e m5 ⟨rfl, h6_, h5_, hs_, hk_, hb_⟩; have X6 := Aside0.mk h6_; have X5 := Aside0.mk h5_; have XB1 := Aside0.mk (keep_blk (g := g1) (o := .cells #[.string s] 9 (0, 0)) hk_ (by (with_reducible repeat (first | refine blk_drewN ?_ _ | refine blk_drew ?_ | refine blk_alloc ?_ _)); exact B1.out) N16.out N15.out); have XB2 := Aside0.mk (keep_blk (g := g2) (o := .cells #[.string (⟨#[]⟩ : ByteArray), .slice none 0 0] 24 (0, 0)) hk_ (by (with_reducible repeat (first | refine blk_drewN ?_ _ | refine blk_drew ?_ | refine blk_alloc ?_ _)); exact B2.out) N26.out N25.out); have XB8 := Aside0.mk (keep_blk (g := g8) (o := .cells #[.string nm, vT] 24 (0, 0)) hk_ (by (with_reducible repeat (first | refine blk_drewN ?_ _ | refine blk_drew ?_ | refine blk_alloc ?_ _)); exact B8.out) N86.out N85.out); have XB10 := Aside0.mk (keep_blk (g := g10) (o := .cells #[vN, .int .i64 d, .int .i64 e_, .int .i64 0] 39 (0, 0)) hk_ (by (with_reducible repeat (first | refine blk_drewN ?_ _ | refine blk_drew ?_ | refine blk_alloc ?_ _)); exact B10.out) N106.out N105.out); have XHN := Aside0.mk (keep_R (d := Kd.int .i64) (e := 3) (base := w.heap.size) (ok := (fun k_ => k_ ≠ g5)) (v := vN) (xs := L) hk_ (by (with_reducible repeat (first | apply Kd.R_alloc | apply Kd.R_drewN | apply Kd.R_drew)); exact HN.out) (by (with_reducible repeat (first | refine blk_drewN ?_ _ | refine blk_drew ?_ | refine blk_alloc ?_ _)); exact B6.out) (by decide) (fun _ h_ => h_)); have XHT := Aside0.mk (keep_S (d := k39) (e := 39) (base := w.heap.size) (ok := (fun k_ => (k_ ≠ g5 ∧ k_ ≠ g10) ∧ some k_ ≠ (vN : Value).ownBlock)) (v := vT) (xs := T) hk_ (by (with_reducible repeat (first | apply Kd.S_alloc | apply Kd.S_drewN | apply Kd.S_drew)); exact HT.out) (by (with_reducible repeat (first | refine blk_drewN ?_ _ | refine blk_drew ?_ | refine blk_alloc ?_ _)); exact B6.out) (by decide) (fun _ h_ => h_.1.1)); have XB := Aside0.mk hb_; clear h6_ h5_ hs_ hk_ hb_; clear B6 B5 B1 B2 B8 B10 HN HT HB; have B6 := X6; have B5 := X5; have B1 := XB1; have B2 := XB2; have B8 := XB8; have B10 := XB10; have HN := XHN; have HT := XHT; have HB := XB; clear X6 X5 XB1 XB2 XB8 XB10 XHN XHT XB; have d3 : m5.cell? ⟨g10, 3, none⟩ = some (.int .i64 0) := (blk_cell B10.out 3).trans rfl; have e3 := blk_frozen B10.out 3)
        clear d3 e3
        have X10 := Aside0.mk (show (m5.setCell ⟨g10, 3, none⟩ (.int .i64 g_)).heap[g10]? = some (.cells #[vN, .int .i64 d, .int .i64 e_, .int .i64 g_] 39 (0, 0)) from blk_put (cs := #[vN, .int .i64 d, .int .i64 e_, .int .i64 0]) B10.out 3 _ rfl)
        have XB1 := Aside0.mk (show (m5.setCell ⟨g10, 3, none⟩ (.int .i64 g_)).heap[g1]? = some (.cells #[.string s] 9 (0, 0)) from blk_far B1.out N110.out _)
        have XB2 := Aside0.mk (show (m5.setCell ⟨g10, 3, none⟩ (.int .i64 g_)).heap[g2]? = some (.cells #[.string (⟨#[]⟩ : ByteArray), .slice none 0 0] 24 (0, 0)) from blk_far B2.out N210.out _)
        have XB5 := Aside0.mk (show (m5.setCell ⟨g10, 3, none⟩ (.int .i64 g_)).heap[g5]? = some (.cells #[.int .i64 at7] 3 (0, 0)) from blk_far B5.out N510.out _)
        have XB6 := Aside0.mk (show (m5.setCell ⟨g10, 3, none⟩ (.int .i64 g_)).heap[g6]? = some (.cells #[.int .i64 bad7] 27 (0, 0)) from blk_far B6.out N610.out _)
        have XB8 := Aside0.mk (show (m5.setCell ⟨g10, 3, none⟩ (.int .i64 g_)).heap[g8]? = some (.cells #[.string nm, vT] 24 (0, 0)) from blk_far B8.out N810.out _)
        have XHN := Aside0.mk (show Kd.R (Kd.int .i64) 3 (m5.setCell ⟨g10, 3, none⟩ (.int .i64 g_)) w.heap.size (fun k_ => k_ ≠ g5) (vN) (L) from Kd.R_mono (Kd.R_far (p := ⟨g10, 3, none⟩) (Kd.R_types HN.out B10.out (by decide)) (fun _ h_ => h_.2) (.int .i64 g_)) (fun _ h_ => h_.1))
        have XHT := Aside0.mk (show Kd.S k39 39 (m5.setCell ⟨g10, 3, none⟩ (.int .i64 g_)) w.heap.size (fun k_ => (k_ ≠ g5 ∧ k_ ≠ g10) ∧ some k_ ≠ (vN : Value).ownBlock) (vT) (T) from Kd.S_far (p := ⟨g10, 3, none⟩) HT.out (fun _ h_ => h_.1.2) (.int .i64 g_))
        have XB := Aside0.mk (show Below w.heap.size w (m5.setCell ⟨g10, 3, none⟩ (.int .i64 g_)) from below_set HB.out G10.out)
        clear B10 B1 B2 B5 B6 B8 HN HT HB
        have B10 := X10
        have B1 := XB1
        have B2 := XB2
        have B5 := XB5
        have B6 := XB6
        have B8 := XB8
        have HN := XHN
        have HT := XHT
        have HB := XB
        clear X10 XB1 XB2 XB5 XB6 XB8 XHN XHT XB
        generalize m5.setCell ⟨g10, 3, none⟩ (.int .i64 g_) = m6 at *
        have t0 : m6.cell? ⟨g10, 0, none⟩ = some (vN) := (blk_cell B10.out 0).trans rfl
        have t1 : m6.cell? ⟨g10, 1, none⟩ = some (.int .i64 d) := (blk_cell B10.out 1).trans rfl
        have t2 : m6.cell? ⟨g10, 2, none⟩ = some (.int .i64 e_) := (blk_cell B10.out 2).trans rfl
        have t3 : m6.cell? ⟨g10, 3, none⟩ = some (.int .i64 g_) := (blk_cell B10.out 3).trans rfl
        have u1 : m6.cell? ⟨g8, 1, none⟩ = some (vT) := (blk_cell B8.out 1).trans rfl
        go_upto_region 6 with ((with_reducible refine gate_builtin (b := .append) (xs := #[.tmp 59, .tmp 61]) rfl ?_); at_builtin; refine Kd.S_append k39 (w0 := w) w.heap.size rfl (.tmp 59) (.tmp 61) 22 39 (.agg #[.slice none 0 0, .int .i64 0, .int .i64 0, .int .i64 0]) 48 rfl Try.underlying22 infG39 rfl (by decide) (by decide) vT T (⟨L, d, e_, g_⟩ : S39) [vN, .int .i64 d, .int .i64 e_, .int .i64 g_] (fun k_ => k_ ≠ g5) (fun k_ => some k_ = vN.ownBlock) rfl rfl ?aP ?aK ?aF ?aO ?aB ?aS ?aL ?_; (case aP => exact app_hp (by (with_reducible repeat (first | apply Kd.R_alloc | apply Kd.R_drewN | apply Kd.R_drew)); exact HN.out)); (case aK => exact app_hk HN.out HT.out); (case aF => exact (fun k_ hk_ => Nat.ne_of_gt (Nat.lt_of_lt_of_le (blk_lt (o := .cells #[.int .i64 at7] 3 (0, 0)) (by (with_reducible repeat (first | refine blk_drewN ?_ _ | refine blk_drew ?_ | refine blk_alloc ?_ _)); exact B5.out)) hk_))); (case aO => exact Kd.S_mono (ok := (fun k_ => (k_ ≠ g5 ∧ k_ ≠ g10) ∧ some k_ ≠ (vN : Value).ownBlock)) (by (with_reducible repeat (first | apply Kd.S_alloc | apply Kd.S_drewN | apply Kd.S_drew)); exact HT.out) (fun _ h_ => ⟨h_.1.1, h_.2⟩)); (case aB => exact (by repeat (first | (with_reducible first | exact HB.out | apply below_alloc | apply pw_below_drewN | apply below_drew1 | refine below_set ?_ G2.out | refine below_set ?_ G8.out | refine below_set ?_ G10.out | refine below_set ?_ G5.out | refine below_set ?_ G6.out) | exact HB.out))); (case aS => exact (below_size (by repeat (first | (with_reducible first | exact HB.out | apply below_alloc | apply pw_below_drewN | apply below_drew1 | refine below_set ?_ G2.out | refine below_set ?_ G8.out | refine below_set ?_ G10.out | refine below_set ?_ G5.out | refine below_set ?_ G6.out) | exact HB.out)))); (case aL => (have := LT.out.1; omega)); intro y_ m7 ho hb hg hat; obtain ⟨Ay, ny, cy, ey⟩ : ∃ A n c, y_ = .slice A n c := (Kd.S_slice ho).elim fun A h => h.elim fun c h => ⟨A, _, c, h⟩; subst ey; have XB1 := Aside0.mk (blk_grown (g := g1) (o := .cells #[.string s] 9 (0, 0)) (by (with_reducible repeat (first | refine blk_drewN ?_ _ | refine blk_drew ?_ | refine blk_alloc ?_ _)); exact B1.out) hg (Kd.S_ne HT.out B1.out (by decide))); have XB2 := Aside0.mk (blk_grown (g := g2) (o := .cells #[.string (⟨#[]⟩ : ByteArray), .slice none 0 0] 24 (0, 0)) (by (with_reducible repeat (first | refine blk_drewN ?_ _ | refine blk_drew ?_ | refine blk_alloc ?_ _)); exact B2.out) hg (Kd.S_ne HT.out B2.out (by decide))); have XB5 := Aside0.mk (blk_grown (g := g5) (o := .cells #[.int .i64 at7] 3 (0, 0)) (by (with_reducible repeat (first | refine blk_drewN ?_ _ | refine blk_drew ?_ | refine blk_alloc ?_ _)); exact B5.out) hg (Kd.S_ne HT.out B5.out (by decide))); have XB6 := Aside0.mk (blk_grown (g := g6) (o := .cells #[.int .i64 bad7] 27 (0, 0)) (by (with_reducible repeat (first | refine blk_drewN ?_ _ | refine blk_drew ?_ | refine blk_alloc ?_ _)); exact B6.out) hg (Kd.S_ne HT.out B6.out (by decide))); have XB8 := Aside0.mk (blk_grown (g := g8) (o := .cells #[.string nm, vT] 24 (0, 0)) (by (with_reducible repeat (first | refine blk_drewN ?_ _ | refine blk_drew ?_ | refine blk_alloc ?_ _)); exact B8.out) hg (Kd.S_ne HT.out B8.out (by decide))); have XB := Aside0.mk hb; have XHT := Aside0.mk ho; clear ho hb hg hat HN B10 t0 t1 t2 t3 u1; clear HT HB B1 B2 B5 B6 B8; have HT := XHT; have HB := XB; have B1 := XB1; have B2 := XB2; have B5 := XB5; have B6 := XB6; have B8 := XB8; clear XHT XB XB1 XB2 XB5 XB6 XB8; have u1 : m7.cell? ⟨g8, 1, none⟩ = some (vT) := (blk_cell B8.out 1).trans rfl; have f8 := blk_frozen B8.out 1)
        have X8 := Aside0.mk (show (m7.setCell ⟨g8, 1, none⟩ (.slice Ay ny cy)).heap[g8]? = some (.cells #[.string nm, .slice Ay ny cy] 24 (0, 0)) from blk_put (cs := #[.string nm, vT]) B8.out 1 _ rfl)
        have XB1 := Aside0.mk (show (m7.setCell ⟨g8, 1, none⟩ (.slice Ay ny cy)).heap[g1]? = some (.cells #[.string s] 9 (0, 0)) from blk_far B1.out N18.out _)
        have XB2 := Aside0.mk (show (m7.setCell ⟨g8, 1, none⟩ (.slice Ay ny cy)).heap[g2]? = some (.cells #[.string (⟨#[]⟩ : ByteArray), .slice none 0 0] 24 (0, 0)) from blk_far B2.out N28.out _)
        have XB5 := Aside0.mk (show (m7.setCell ⟨g8, 1, none⟩ (.slice Ay ny cy)).heap[g5]? = some (.cells #[.int .i64 at7] 3 (0, 0)) from blk_far B5.out N58.out _)
        have XB6 := Aside0.mk (show (m7.setCell ⟨g8, 1, none⟩ (.slice Ay ny cy)).heap[g6]? = some (.cells #[.int .i64 bad7] 27 (0, 0)) from blk_far B6.out N68.out _)
        have XHT := Aside0.mk (show Kd.S k39 39 (m7.setCell ⟨g8, 1, none⟩ (.slice Ay ny cy)) w.heap.size (fun k_ => k_ ≠ g5) (.slice Ay ny cy) (T ++ [⟨L, d, e_, g_⟩]) from Kd.S_mono (Kd.S_far (p := ⟨g8, 1, none⟩) (Kd.S_types HT.out B8.out (by decide)) (fun _ h_ => h_.2) (.slice Ay ny cy)) (fun _ h_ => h_.1))
        have XB := Aside0.mk (show Below w.heap.size w (m7.setCell ⟨g8, 1, none⟩ (.slice Ay ny cy)) from below_set HB.out G8.out)
        clear u1 f8
        clear B8 B1 B2 B5 B6 HT HB
        have B8 := X8
        have B1 := XB1
        have B2 := XB2
        have B5 := XB5
        have B6 := XB6
        have HT := XHT
        have HB := XB
        clear X8 XB1 XB2 XB5 XB6 XHT XB
        generalize m7.setCell ⟨g8, 1, none⟩ (.slice Ay ny cy) = m8 at *
        go_wp2
        go_roundg k2
        case rel => exact ⟨_, at7, bad7, _, _, rfl, HSO, HT, B1, B2, B5, B6, B8, HB⟩
        case measure => omega
      rw [if_pos cc2] at hn
      subst cc2
      by_cases cc3 : L.length < 1000000 ∧ cn < 1000000000000
      case neg => rw [if_neg cc3] at hn; cases hn
      rw [if_pos cc3] at hn
      have LM := Aside0.mk cc3
      clear cc3
      obtain ⟨⟨x1, at6, bad6⟩, hx, hn⟩ := Option.bind_eq_some_iff.1 hn
      simp only at hx hn
      have TX := Aside0.mk hx
      have HS := Aside0.mk hn
      clear hx hn
      have c0 : wr.cell? ⟨g10, 0, none⟩ = some (vN) := (blk_cell B10.out 0).trans rfl
      go_upto_region 11 with fail
      refine start_ (n := 8) (S := fun w' => w'.cell? ⟨g10, 0, none⟩ = some (vN)) (ds := [7]) #[false, false, false, false, false, false, false, false] (by kernel_rfl) rfl rfl (((blk_cell (blk_drew B10.out) 0).trans rfl)) (fun hHeld => ?_)
      refine pure_ (i := 0) (N := some 42) (v := ?_) (a' := ?_) #[true, false, false, false, false, false, false, false] rfl rfl (by kernel_rfl) (fun _ _ _ h => h) (Or.inl ⟨by rfl, ?_⟩) ?_ ?_
      rotate_left
      · intro w'
        go_simp
        with_reducible rfl
      rotate_left
      · simp only [Act.put, List.setIfInBounds_toArray, List.set_cons_zero, List.set_cons_succ, i64_w, i32_w]
        rfl
      refine pure_ (i := 2) (N := some 44) (v := ?_) (a' := ?_) #[true, false, true, false, false, false, false, false] rfl rfl (by kernel_rfl) (fun _ _ _ h => h) (Or.inl ⟨by rfl, ?_⟩) ?_ ?_
      rotate_left
      · intro w'
        go_simp
        with_reducible rfl
      rotate_left
      · simp only [Act.put, List.setIfInBounds_toArray, List.set_cons_zero, List.set_cons_succ, i64_w, i32_w]
        rfl
      refine take_ (i := 1) (N := some 43) (v := ?_) (a' := ?_) #[true, true, true, false, false, false, false, false] rfl rfl (by kernel_rfl) (fun _ _ _ h => h) (Or.inl ⟨by rfl, ?_⟩) hHeld ?_ ?_
      rotate_left
      · intro w' s0
        go_simp
        with_reducible rfl
      rotate_left
      · simp only [Act.put, List.setIfInBounds_toArray, List.set_cons_zero, List.set_cons_succ, i64_w, i32_w]
        rfl
      refine one_ (i := 3) (N := some 45) #[true, true, true, true, false, false, false, false] rfl rfl (by kernel_rfl) (by decide) (fun K hK => ?_)
      refine goesV_ Try.func36 (by kernel_rfl) rfl #[.int .i64 1, .pointer (some ⟨g6, 0, none⟩), .pointer (some ⟨g1, 0, none⟩), .pointer (some ⟨g5, 0, none⟩)] (by rfl) rfl rfl (by rfl) (by first | rfl | (simp only [List.map_toArray, List.map_cons, List.map_nil]; rfl)) ?_
      with_reducible refine (next_calls g6 g1 g5 s atn 0 1 x1 at6 bad6 TX.out _ (by (with_reducible repeat (first | refine blk_drewN ?_ _ | refine blk_drew ?_ | refine blk_alloc ?_ _)); exact B6.out) (by (with_reducible repeat (first | refine blk_drewN ?_ _ | refine blk_drew ?_ | refine blk_alloc ?_ _)); exact B1.out) (by (with_reducible repeat (first | refine blk_drewN ?_ _ | refine blk_drew ?_ | refine blk_alloc ?_ _)); exact B5.out) w (by repeat (first | (with_reducible first | exact HB.out | apply below_alloc | apply pw_below_drewN | apply below_drew1 | refine below_set ?_ G2.out | refine below_set ?_ G8.out | refine below_set ?_ G10.out | refine below_set ?_ G5.out | refine below_set ?_ G6.out) | exact HB.out)) G6.out G5.out).mono ?_
      rintro e n5 ⟨rfl, h6_, h5_, hs_, hk_, hb_⟩
      refine ⟨_, rfl, ?_⟩
      have X6 := Aside0.mk h6_
      have X5 := Aside0.mk h5_
      have XB1 := Aside0.mk (keep_blk (g := g1) (o := .cells #[.string s] 9 (0, 0)) hk_ (by (with_reducible repeat (first | refine blk_drewN ?_ _ | refine blk_drew ?_ | refine blk_alloc ?_ _)); exact B1.out) N16.out N15.out)
      have XB2 := Aside0.mk (keep_blk (g := g2) (o := .cells #[.string (⟨#[]⟩ : ByteArray), .slice none 0 0] 24 (0, 0)) hk_ (by (with_reducible repeat (first | refine blk_drewN ?_ _ | refine blk_drew ?_ | refine blk_alloc ?_ _)); exact B2.out) N26.out N25.out)
      have XB8 := Aside0.mk (keep_blk (g := g8) (o := .cells #[.string nm, vT] 24 (0, 0)) hk_ (by (with_reducible repeat (first | refine blk_drewN ?_ _ | refine blk_drew ?_ | refine blk_alloc ?_ _)); exact B8.out) N86.out N85.out)
      have XB10 := Aside0.mk (keep_blk (g := g10) (o := .cells #[vN, .int .i64 0, .int .i64 0, .int .i64 0] 39 (0, 0)) hk_ (by (with_reducible repeat (first | refine blk_drewN ?_ _ | refine blk_drew ?_ | refine blk_alloc ?_ _)); exact B10.out) N106.out N105.out)
      have XHN := Aside0.mk (keep_R (d := Kd.int .i64) (e := 3) (base := w.heap.size) (ok := (fun k_ => k_ ≠ g5)) (v := vN) (xs := L) hk_ (by (with_reducible repeat (first | apply Kd.R_alloc | apply Kd.R_drewN | apply Kd.R_drew)); exact HN.out) (by (with_reducible repeat (first | refine blk_drewN ?_ _ | refine blk_drew ?_ | refine blk_alloc ?_ _)); exact B6.out) (by decide) (fun _ h_ => h_))
      have XHT := Aside0.mk (keep_S (d := k39) (e := 39) (base := w.heap.size) (ok := (fun k_ => (k_ ≠ g5 ∧ k_ ≠ g10) ∧ some k_ ≠ (vN : Value).ownBlock)) (v := vT) (xs := T) hk_ (by (with_reducible repeat (first | apply Kd.S_alloc | apply Kd.S_drewN | apply Kd.S_drew)); exact HT.out) (by (with_reducible repeat (first | refine blk_drewN ?_ _ | refine blk_drew ?_ | refine blk_alloc ?_ _)); exact B6.out) (by decide) (fun _ h_ => h_.1.1))
      have XB := Aside0.mk hb_
      clear h6_ h5_ hs_ hk_ hb_
      clear B6 B5 B1 B2 B8 B10 HN HT HB
      have B6 := X6
      have B5 := X5
      have B1 := XB1
      have B2 := XB2
      have B8 := XB8
      have B10 := XB10
      have HN := XHN
      have HT := XHT
      have HB := XB
      clear X6 X5 XB1 XB2 XB8 XB10 XHN XHT XB
      refine hK.out _ _ (((blk_cell B10.out 0).trans rfl)) (fun hHeld => ?_)
      clear hK K
      refine norm_ (a' := ?_) ?_ ?_
      rotate_left
      · show Act.put _ (some 45) _ = _
        simp only [Act.put, List.setIfInBounds_toArray, List.set_cons_zero, List.set_cons_succ, i64_w, i32_w]
        rfl
      refine one_ (i := 4) (N := some 46) #[true, true, true, true, true, false, false, false] rfl rfl (by kernel_rfl) (by decide) (fun K hK => ?_)
      refine value_ (w1 := ?_) (v := ?_) (by rfl) rfl ?_ ?_
      rotate_left 2
      · go_simp
        constructor
        · rfl
        · rfl
      refine hK.out _ _ (((blk_cell (blk_alloc B10.out _) 0).trans rfl)) (fun hHeld => ?_)
      clear hK K
      refine norm_ (a' := ?_) ?_ ?_
      rotate_left
      · show Act.put _ (some 46) _ = _
        simp only [Act.put, List.setIfInBounds_toArray, List.set_cons_zero, List.set_cons_succ, i64_w, i32_w]
        rfl
      refine one_ (i := 5) (N := some 47) #[true, true, true, true, true, true, false, false] rfl rfl (by kernel_rfl) (by decide) (fun K hK => ?_)
      refine Kd.R_append_step (Kd.int .i64) (w0 := w) w.heap.size (by rfl) (.tmp 43) (.tmp 46) 29 3 (.int .i64 0) 8 rfl Try.underlying29 infG3 rfl (by decide) (by omega) vN (L) x1 [.int .i64 x1] (fun k_ => k_ ≠ g5) (fun _ => False) rfl rfl ?aP (fun _ hk => hk.elim) ?aF ?aO ?aB ?aS ?aL ?_
      case aP => exact rfl
      case aB => exact (by repeat (first | (with_reducible first | exact HB.out | apply below_alloc | apply pw_below_drewN | apply below_drew1 | refine below_set ?_ G2.out | refine below_set ?_ G8.out | refine below_set ?_ G10.out | refine below_set ?_ G5.out | refine below_set ?_ G6.out) | exact HB.out))
      case aF => exact (fun k_ hk => Nat.ne_of_gt (Nat.lt_of_lt_of_le (blk_lt (o := .cells #[.int .i64 at6] 3 (0, 0)) (by (with_reducible repeat (first | refine blk_drewN ?_ _ | refine blk_drew ?_ | refine blk_alloc ?_ _)); exact B5.out)) hk))
      case aO => exact (by (with_reducible repeat (first | apply Kd.R_alloc | apply Kd.R_drewN | apply Kd.R_drew)); exact HN.out)
      case aS => exact (below_size (by repeat (first | (with_reducible first | exact HB.out | apply below_alloc | apply pw_below_drewN | apply below_drew1 | refine below_set ?_ G2.out | refine below_set ?_ G8.out | refine below_set ?_ G10.out | refine below_set ?_ G5.out | refine below_set ?_ G6.out) | exact HB.out)))
      case aL => (have := LM.out.1; omega)
      intro y_ n6 ho hb hg hat
      obtain ⟨An, nn, cn_, ey⟩ : ∃ A n c, y_ = .slice A n c := (Kd.R_slice ho).elim fun A h => h.elim fun c h => ⟨A, _, c, h⟩
      subst ey
      have XHT := Aside0.mk (Kd.S_after (ok := (fun k_ => k_ ≠ g5 ∧ k_ ≠ g10)) (by (with_reducible repeat (first | apply Kd.S_alloc | apply Kd.S_drewN | apply Kd.S_drew)); exact HT.out) hg hat)
      have XB1 := Aside0.mk (blk_grown (g := g1) (o := .cells #[.string s] 9 (0, 0)) (by (with_reducible repeat (first | refine blk_drewN ?_ _ | refine blk_drew ?_ | refine blk_alloc ?_ _)); exact B1.out) hg (Kd.R_ne HN.out B1.out (by decide)))
      have XB2 := Aside0.mk (blk_grown (g := g2) (o := .cells #[.string (⟨#[]⟩ : ByteArray), .slice none 0 0] 24 (0, 0)) (by (with_reducible repeat (first | refine blk_drewN ?_ _ | refine blk_drew ?_ | refine blk_alloc ?_ _)); exact B2.out) hg (Kd.R_ne HN.out B2.out (by decide)))
      have XB6 := Aside0.mk (blk_grown (g := g6) (o := .cells #[.int .i64 bad6] 27 (0, 0)) (by (with_reducible repeat (first | refine blk_drewN ?_ _ | refine blk_drew ?_ | refine blk_alloc ?_ _)); exact B6.out) hg (Kd.R_ne HN.out B6.out (by decide)))
      have XB8 := Aside0.mk (blk_grown (g := g8) (o := .cells #[.string nm, vT] 24 (0, 0)) (by (with_reducible repeat (first | refine blk_drewN ?_ _ | refine blk_drew ?_ | refine blk_alloc ?_ _)); exact B8.out) hg (Kd.R_ne HN.out B8.out (by decide)))
      have XB10 := Aside0.mk (blk_grown (g := g10) (o := .cells #[vN, .int .i64 0, .int .i64 0, .int .i64 0] 39 (0, 0)) (by (with_reducible repeat (first | refine blk_drewN ?_ _ | refine blk_drew ?_ | refine blk_alloc ?_ _)); exact B10.out) hg (Kd.R_ne HN.out B10.out (by decide)))
      have XB5 := Aside0.mk (blk_grown (g := g5) (o := .cells #[.int .i64 at6] 3 (0, 0)) (by (with_reducible repeat (first | refine blk_drewN ?_ _ | refine blk_drew ?_ | refine blk_alloc ?_ _)); exact B5.out) hg (Kd.R_away HN.out (fun _ h_ => h_)))
      have XB := Aside0.mk hb
      have XHN := Aside0.mk ho
      clear ho hb hg hat
      clear HT HN HB B1 B2 B5 B6 B8 B10
      have HT := XHT
      have HN := XHN
      have HB := XB
      have B1 := XB1
      have B2 := XB2
      have B5 := XB5
      have B6 := XB6
      have B8 := XB8
      have B10 := XB10
      clear XHT XHN XB XB1 XB2 XB5 XB6 XB8 XB10
      refine hK.out _ _ (((blk_cell B10.out 0).trans rfl)) (fun hHeld => ?_)
      clear hK K
      refine norm_ (a' := ?_) ?_ ?_
      rotate_left
      · show Act.put _ (some 47) _ = _
        simp only [Act.put, List.setIfInBounds_toArray, List.set_cons_zero, List.set_cons_succ, i64_w, i32_w]
        rfl
      refine pure_ (i := 6) (N := some 48) (v := ?_) (a' := ?_) #[true, true, true, true, true, true, true, false] rfl rfl (by kernel_rfl) (fun _ _ _ h => h) (Or.inl ⟨by rfl, ?_⟩) ?_ ?_
      rotate_left
      · intro w'
        go_simp
        with_reducible rfl
      rotate_left
      · simp only [Act.put, List.setIfInBounds_toArray, List.set_cons_zero, List.set_cons_succ, i64_w, i32_w]
        rfl
      refine last_ (i := 7) (N := none) #[true, true, true, true, true, true, true, true] rfl rfl (by kernel_rfl) (by decide) (fun K hK => ?_)
      have cS : n6.cell? ⟨g10, 0, none⟩ = some (vN) := (blk_cell B10.out 0).trans rfl
      have fS := blk_frozen B10.out 0
      refine skip_ (w1 := ?_) (by rfl) rfl ?_ ?_
      rotate_left
      · go_simp
        rfl
      refine hK.out _ _ ?_
      clear hK K
      refine done_ (by kernel_rfl) ?_
      clear cS fS
      have X10 := Aside0.mk (show (n6.setCell ⟨g10, 0, none⟩ (.slice An nn cn_)).heap[g10]? = some (.cells #[.slice An nn cn_, .int .i64 0, .int .i64 0, .int .i64 0] 39 (0, 0)) from blk_put (cs := #[vN, .int .i64 0, .int .i64 0, .int .i64 0]) B10.out 0 _ rfl)
      have XB1 := Aside0.mk (show (n6.setCell ⟨g10, 0, none⟩ (.slice An nn cn_)).heap[g1]? = some (.cells #[.string s] 9 (0, 0)) from blk_far B1.out N110.out _)
      have XB2 := Aside0.mk (show (n6.setCell ⟨g10, 0, none⟩ (.slice An nn cn_)).heap[g2]? = some (.cells #[.string (⟨#[]⟩ : ByteArray), .slice none 0 0] 24 (0, 0)) from blk_far B2.out N210.out _)
      have XB5 := Aside0.mk (show (n6.setCell ⟨g10, 0, none⟩ (.slice An nn cn_)).heap[g5]? = some (.cells #[.int .i64 at6] 3 (0, 0)) from blk_far B5.out N510.out _)
      have XB6 := Aside0.mk (show (n6.setCell ⟨g10, 0, none⟩ (.slice An nn cn_)).heap[g6]? = some (.cells #[.int .i64 bad6] 27 (0, 0)) from blk_far B6.out N610.out _)
      have XB8 := Aside0.mk (show (n6.setCell ⟨g10, 0, none⟩ (.slice An nn cn_)).heap[g8]? = some (.cells #[.string nm, vT] 24 (0, 0)) from blk_far B8.out N810.out _)
      have XHN := Aside0.mk (show Kd.R (Kd.int .i64) 3 (n6.setCell ⟨g10, 0, none⟩ (.slice An nn cn_)) w.heap.size (fun k_ => k_ ≠ g5) (.slice An nn cn_) (L ++ [x1]) from Kd.R_mono (Kd.R_far (p := ⟨g10, 0, none⟩) (Kd.R_types HN.out B10.out (by decide)) (fun _ h_ => h_.2) (.slice An nn cn_)) (fun _ h_ => h_.1))
      have XHT := Aside0.mk (show Kd.S k39 39 (n6.setCell ⟨g10, 0, none⟩ (.slice An nn cn_)) w.heap.size (fun k_ => (k_ ≠ g5 ∧ k_ ≠ g10) ∧ some k_ ≠ (.slice An nn cn_ : Value).ownBlock) (vT) (T) from Kd.S_far (p := ⟨g10, 0, none⟩) HT.out (fun _ h_ => h_.1.2) (.slice An nn cn_))
      have XB := Aside0.mk (show Below w.heap.size w (n6.setCell ⟨g10, 0, none⟩ (.slice An nn cn_)) from below_set HB.out G10.out)
      clear B10 B1 B2 B5 B6 B8 HN HT HB
      have B10 := X10
      have B1 := XB1
      have B2 := XB2
      have B5 := XB5
      have B6 := XB6
      have B8 := XB8
      have HN := XHN
      have HT := XHT
      have HB := XB
      clear X10 XB1 XB2 XB5 XB6 XB8 XHN XHT XB
      generalize n6.setCell ⟨g10, 0, none⟩ (.slice An nn cn_) = n7 at *
      go_wp2
      go_roundg k3
      case rel => exact ⟨_, at6, bad6, _, _, rfl, HS, HN, HT, B1, B2, B5, B6, B8, B10, HB⟩
      case measure => omega
end Go.Proofs.Ytbgmhcefjggpgaa
