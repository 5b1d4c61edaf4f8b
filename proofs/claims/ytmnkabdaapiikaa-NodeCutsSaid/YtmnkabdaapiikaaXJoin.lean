/- Two nodes joined (node.Join): what the machine's call comes to, as a plain function. -/
import Derived.Test.YtmnkabdaapiikaaXCut
namespace Go.Proofs.Ytmnkabdaapiikaa
open Go.RowKit Go.Proofs.YtmnkabdaapiikaaW.PrintWords Go.Proofs.YtmnkabdaapiikaaW.PrintLast Go.Proofs.YtmnkabdaapiikaaW.PrintMore
set_option linter.unusedVariables false
set_option linter.unusedSimpArgs false
theorem set1_R {α : Type} {d : Kd α} {e g base ty i : Nat} {w : World} {ok : Nat → Prop} {v u : Value} {xs : List α} {cs : Array Value} (h : Kd.R d e w base ok v xs) (hb : w.heap[g]? = some (.cells cs ty (0, 0))) (ht : ∀ q, q ∈ e :: d.E → q ≠ ty) : Kd.R d e (w.setCell ⟨g, i, none⟩ u) base ok v xs :=
  Kd.R_mono (Kd.R_far (p := ⟨g, i, none⟩) (Kd.R_types h hb ht) (fun _ h => h.2) u) (fun _ h => h.1)
theorem C_two_row {α : Type} {d : Kd α} {e : Nat} {w : World} {g n c m c' ty : Nat} {A A' : Option Addr} {xs ys : List α} (hl : n = xs.length) (hc : n ≤ c) (h : Kd.C d w A xs.length xs) (hl' : m = ys.length) (hc' : m ≤ c') (h' : Kd.C d w A' ys.length ys) (hb : w.heap[g]? = some (.cells #[.slice A n c, .slice A' m c'] ty (0, 0))) : Kd.C (Kd.slice e d) w (some ⟨g, 0, none⟩) 2 [xs, ys] :=
  ⟨rfl, by decide, fun _ => ⟨⟨g, 0, none⟩, rfl, fun j p hj => by
    match j, hj with
    | 0, hj =>
      injection hj with hj
      subst hj
      subst hl
      refine ⟨[.slice A xs.length c], rfl, ⟨A, c, rfl, hc, h⟩, fun i u hu => ?_⟩
      match i, hu with
      | 0, hu =>
        injection hu with hu
        subst hu
        exact (blk_cell hb 0).trans rfl
    | 1, hj =>
      injection hj with hj
      subst hj
      subst hl'
      refine ⟨[.slice A' ys.length c'], rfl, ⟨A', c', rfl, hc', h'⟩, fun i u hu => ?_⟩
      match i, hu with
      | 0, hu =>
        injection hu with hu
        subst hu
        exact (blk_cell hb 1).trans rfl⟩⟩
theorem C_three_row {α : Type} {d : Kd α} {e : Nat} {w : World} {g n c m c' q c2 ty : Nat} {A A' A2 : Option Addr} {xs ys zs : List α} (hl : n = xs.length) (hc : n ≤ c) (h : Kd.C d w A xs.length xs) (hl' : m = ys.length) (hc' : m ≤ c') (h' : Kd.C d w A' ys.length ys) (hl2 : q = zs.length) (hc2 : q ≤ c2) (h2 : Kd.C d w A2 zs.length zs) (hb : w.heap[g]? = some (.cells #[.slice A n c, .slice A' m c', .slice A2 q c2] ty (0, 0))) : Kd.C (Kd.slice e d) w (some ⟨g, 0, none⟩) 3 [xs, ys, zs] :=
  ⟨rfl, by decide, fun _ => ⟨⟨g, 0, none⟩, rfl, fun j p hj => by
    match j, hj with
    | 0, hj =>
      injection hj with hj
      subst hj
      subst hl
      refine ⟨[.slice A xs.length c], rfl, ⟨A, c, rfl, hc, h⟩, fun i u hu => ?_⟩
      match i, hu with
      | 0, hu =>
        injection hu with hu
        subst hu
        exact (blk_cell hb 0).trans rfl
    | 1, hj =>
      injection hj with hj
      subst hj
      subst hl'
      refine ⟨[.slice A' ys.length c'], rfl, ⟨A', c', rfl, hc', h'⟩, fun i u hu => ?_⟩
      match i, hu with
      | 0, hu =>
        injection hu with hu
        subst hu
        exact (blk_cell hb 1).trans rfl
    | 2, hj =>
      injection hj with hj
      subst hj
      subst hl2
      refine ⟨[.slice A2 zs.length c2], rfl, ⟨A2, c2, rfl, hc2, h2⟩, fun i u hu => ?_⟩
      match i, hu with
      | 0, hu =>
        injection hu with hu
        subst hu
        exact (blk_cell hb 2).trans rfl⟩⟩
theorem C_two_ss (w : World) {c c' : Nat} {A A' : Option Addr} {xs ys : List ByteArray} (hc : xs.length ≤ c) (h : Kd.C Kd.string w A xs.length xs) (hc' : ys.length ≤ c') (h' : Kd.C Kd.string w A' ys.length ys) : Kd.C (Kd.slice 9 Kd.string) (w.alloc (.cells #[.slice A xs.length c, .slice A' ys.length c'] 22 (0, 0))) (some ⟨w.heap.size, 0, none⟩) 2 [xs, ys] := C_two_row rfl hc (Kd.C_alloc h _) rfl hc' (Kd.C_alloc h' _) (blk_new w _)
theorem C_two_si (w : World) {c c' : Nat} {A A' : Option Addr} {xs ys : List Int} (hc : xs.length ≤ c) (h : Kd.C (Kd.int .i64) w A xs.length xs) (hc' : ys.length ≤ c') (h' : Kd.C (Kd.int .i64) w A' ys.length ys) : Kd.C (Kd.slice 3 (Kd.int .i64)) (w.alloc (.cells #[.slice A xs.length c, .slice A' ys.length c'] 23 (0, 0))) (some ⟨w.heap.size, 0, none⟩) 2 [xs, ys] := C_two_row rfl hc (Kd.C_alloc h _) rfl hc' (Kd.C_alloc h' _) (blk_new w _)
theorem C_key (w : World) (x : ByteArray) : Kd.C Kd.string (w.alloc (.cells #[.string x] 9 (0, 0))) (some ⟨w.heap.size, 0, none⟩) 1 [x] :=
  ⟨rfl, by decide, fun _ => ⟨⟨w.heap.size, 0, none⟩, rfl, fun j p hj => by
    match j, hj with
    | 0, hj =>
      injection hj with hj
      subst hj
      refine ⟨[.string x], rfl, rfl, fun i u hu => ?_⟩
      match i, hu with
      | 0, hu =>
        injection hu with hu
        subst hu
        exact (blk_cell (blk_new w _) 0).trans rfl⟩⟩
theorem C_three (w : World) (x : ByteArray) {c c' : Nat} {A A' : Option Addr} {xs ys : List ByteArray} (hc : xs.length ≤ c) (h : Kd.C Kd.string w A xs.length xs) (hc' : ys.length ≤ c') (h' : Kd.C Kd.string w A' ys.length ys) :
    Kd.C (Kd.slice 9 Kd.string) ((w.alloc (.cells #[.string x] 9 (0, 0))).alloc (.cells #[.slice A xs.length c, .slice (some ⟨w.heap.size, 0, none⟩) 1 1, .slice A' ys.length c'] 22 (0, 0))) (some ⟨w.heap.size + 1, 0, none⟩) 3 [xs, [x], ys] := by
  have e : (w.alloc (.cells #[.string x] 9 (0, 0))).heap.size = w.heap.size + 1 := Array.size_push _
  rw [← e]
  exact C_three_row rfl hc (Kd.C_alloc (Kd.C_alloc h _) _) rfl (Nat.le_refl _) (Kd.C_alloc (C_key w x) _) rfl hc' (Kd.C_alloc (Kd.C_alloc h' _) _) (blk_new _ _)
abbrev Bk (w : World) (g : Nat) (a : Array Value) : Prop := w.heap[g]? = some (.cells a 25 (0, 0))
abbrev Z4 : Array Value := #[.bool false, .slice none 0 0, .slice none 0 0, .slice none 0 0]
abbrev P5 (w : World) (g1 g2 g4 : Nat) (a b : Array Value) (w' : World) : Prop := Below w.heap.size w w' ∧ Bk w' g1 a ∧ Bk w' g2 b ∧ Bk w' g4 Z4
abbrev RS (w w' : World) (v : Value) (xs : List ByteArray) : Prop := Kd.R Kd.string 9 w' w.heap.size (fun _ => True) v xs
abbrev RI (w w' : World) (v : Value) (xs : List Int) : Prop := Kd.R (Kd.int .i64) 3 w' w.heap.size (fun _ => True) v xs
abbrev CS (w : World) (g : Nat) (xs : List (List ByteArray)) : Prop := Kd.C (Kd.slice 9 Kd.string) w (some ⟨g, 0, none⟩) 2 xs
abbrev CI (w : World) (g : Nat) (xs : List (List Int)) : Prop := Kd.C (Kd.slice 3 (Kd.int .i64)) w (some ⟨g, 0, none⟩) 2 xs
theorem held7 {w : World} {g g' : Nat} {a b : Array Value} {a0 a1 a2 a3 b0 b1 b2 b3 : Value} (ha : a = #[a0, a1, a2, a3]) (hb : b = #[b0, b1, b2, b3]) (h : Bk w g a) (h' : Bk w g' b) :
    w.cell? ⟨g, 0, none⟩ = some a0 ∧ w.cell? ⟨g, 1, none⟩ = some a1 ∧ w.cell? ⟨g', 1, none⟩ = some b1 ∧ w.cell? ⟨g, 2, none⟩ = some a2 ∧ w.cell? ⟨g', 2, none⟩ = some b2 ∧ w.cell? ⟨g, 3, none⟩ = some a3 ∧ w.cell? ⟨g', 3, none⟩ = some b3 := by
  subst ha hb
  exact ⟨(blk_cell h 0).trans rfl, (blk_cell h 1).trans rfl, (blk_cell h' 1).trans rfl, (blk_cell h 2).trans rfl, (blk_cell h' 2).trans rfl, (blk_cell h 3).trans rfl, (blk_cell h' 3).trans rfl⟩
abbrev noNode : Bool × List ByteArray × List ByteArray × List Int × Int := (false, [], [], [], 1)
def node_Join.f (k : Nat) (lf1 : Bool) (Ks Vs : List ByteArray) (Cs : List Int) (key : ByteArray) (lf2 : Bool) (Ls Us : List ByteArray) (Ds : List Int) : Option (Bool × List ByteArray × List ByteArray × List Int × Int) :=
  (node_stands.f k lf1 Ks Vs Cs).bind fun b1 => if b1 = true then ((node_stands.f k lf2 Ls Us Ds).bind fun b2 => if b2 = true then (if lf1 = lf2 then
      ((node_rows_string.f k [Ks, Ls]).bind fun ks => (node_rows_string.f k [Vs, Us]).bind fun vs => (node_rows_int.f k [Cs, Ds]).bind fun cs =>
        if lf1 = true then ((node_stands.f k lf1 ks vs cs).bind fun b3 => if b3 = true then some (lf1, ks, vs, cs, 0) else some (false, [], [], [], 1))
        else ((node_rows_string.f k [Ks, [key], Ls]).bind fun kk => (node_stands.f k lf1 kk vs cs).bind fun b3 => if b3 = true then some (lf1, kk, vs, cs, 0) else some (false, [], [], [], 1)))
    else some (false, [], [], [], 1)) else some (false, [], [], [], 1)) else some (false, [], [], [], 1)
theorem node_Join.mono : ∀ lf1 Ks Vs Cs key lf2 Ls Us Ds k, LeO (node_Join.f k lf1 Ks Vs Cs key lf2 Ls Us Ds) (node_Join.f (k + 1) lf1 Ks Vs Cs key lf2 Ls Us Ds) := by
  intro lf1 Ks Vs Cs key lf2 Ls Us Ds k
  unfold node_Join.f
  exact LeO.bind (node_stands.mono _ _ _ _ _) fun _ => LeO.ite (LeO.bind (node_stands.mono _ _ _ _ _) fun _ => LeO.ite (LeO.ite (LeO.bind (node_rows_string.mono _ _) fun _ => LeO.bind (node_rows_string.mono _ _) fun _ => LeO.bind (node_rows_int.mono _ _) fun _ => LeO.ite (LeO.bind (node_stands.mono _ _ _ _ _) fun _ => LeO.refl _) (LeO.bind (node_rows_string.mono _ _) fun _ => LeO.bind (node_stands.mono _ _ _ _ _) fun _ => LeO.refl _)) (LeO.refl _)) (LeO.refl _)) (LeO.refl _)
set_option maxHeartbeats 8000000 in
set_option maxRecDepth 100000 in
theorem node_Join.calls (k : Nat) (lf1 : Bool) (A1 : Option Addr) (c1 : Nat) (Ks : List ByteArray) (A2 : Option Addr) (c2 : Nat) (Vs : List ByteArray) (A3 : Option Addr) (c3 : Nat) (Cs : List Int) (key : ByteArray) (lf2 : Bool) (A4 : Option Addr) (c4 : Nat) (Ls : List ByteArray) (A5 : Option Addr) (c5 : Nat) (Us : List ByteArray) (A6 : Option Addr) (c6 : Nat) (Ds : List Int) (r1 : Bool) (r2 r3 : List ByteArray) (r4 : List Int) (r5 : Int) (w : World)
    (hr1 : Kd.C Kd.string w A1 Ks.length Ks) (hc1 : Ks.length ≤ c1) (hr2 : Kd.C Kd.string w A2 Vs.length Vs) (hc2 : Vs.length ≤ c2) (hr3 : Kd.C (Kd.int .i64) w A3 Cs.length Cs) (hc3 : Cs.length ≤ c3) (hr4 : Kd.C Kd.string w A4 Ls.length Ls) (hc4 : Ls.length ≤ c4) (hr5 : Kd.C Kd.string w A5 Us.length Us) (hc5 : Us.length ≤ c5) (hr6 : Kd.C (Kd.int .i64) w A6 Ds.length Ds) (hc6 : Ds.length ≤ c6) (h : node_Join.f k lf1 Ks Vs Cs key lf2 Ls Us Ds = some (r1, r2, r3, r4, r5)) :
    Calls Try.prog 21 #[.agg #[.bool lf1, .slice A1 Ks.length c1, .slice A2 Vs.length c2, .slice A3 Cs.length c3], .string key, .agg #[.bool lf2, .slice A4 Ls.length c4, .slice A5 Us.length c5, .slice A6 Ds.length c6]] w fun e w' => ∃ v1 v2 v3 : Value, e = .returned (.tuple #[.agg #[.bool r1, v1, v2, v3], .int .i64 r5]) ∧
      Kd.R Kd.string 9 w' w.heap.size (fun _ => True) v1 r2 ∧ Kd.R Kd.string 9 w' w.heap.size (fun _ => True) v2 r3 ∧ Kd.R (Kd.int .i64) 3 w' w.heap.size (fun _ => True) v3 r4 ∧ Below w.heap.size w w' := by
  have hu25 := Try.underlying25
  have HR1 := Aside0.mk hr1
  have HC1 := Aside0.mk hc1
  have HR2 := Aside0.mk hr2
  have HC2 := Aside0.mk hc2
  have HR3 := Aside0.mk hr3
  have HC3 := Aside0.mk hc3
  have HR4 := Aside0.mk hr4
  have HC4 := Aside0.mk hc4
  have HR5 := Aside0.mk hr5
  have HC5 := Aside0.mk hc5
  have HR6 := Aside0.mk hr6
  have HC6 := Aside0.mk hc6
  have HB := Aside0.mk (Below.refl w.heap.size w)
  clear hr1 hc1 hr2 hc2 hr3 hc3 hr4 hc4 hr5 hc5 hr6 hc6
  unfold node_Join.f at h
  obtain ⟨b1, hs, h⟩ := Option.bind_eq_some_iff.1 h
  have S1 := Aside0.mk hs
  clear hs
  go_enter Try.func21, Try.ntmps21
  go_upto_region 1 with (first | ((with_reducible refine gate_dst (N := 3) rfl ?_); refine box_event ?hg (N := 3) ?hd (cs := #[.bool lf1, .slice A1 Ks.length c1, .slice A2 Vs.length c2, .slice A3 Cs.length c3]) (t := 25) ?hr ?_; (case hd => rfl); (case hg => rfl); (case hr => first | (go_simp; done) | (go_simp; rfl)); intro g1 hg w1 hbox hb; have NB := Aside0.mk (below_step (by repeat (first | (with_reducible first | exact HB.out | apply below_alloc | apply pw_below_drewN | apply below_drew1) | exact HB.out)) hb); have G1 := Aside0.mk (show w.heap.size ≤ g1 by rw [hg]; exact below_size (by repeat (first | (with_reducible first | exact HB.out | apply below_alloc | apply pw_below_drewN | apply below_drew1) | exact HB.out))); clear HB; have HB := NB; have B1 := Aside0.mk hbox; clear NB hb hbox hg) | ((with_reducible refine gate_dst (N := 5) rfl ?_); refine box_event ?hg (N := 5) ?hd (cs := #[.bool lf2, .slice A4 Ls.length c4, .slice A5 Us.length c5, .slice A6 Ds.length c6]) (t := 25) ?hr ?_; (case hd => rfl); (case hg => rfl); (case hr => first | (go_simp; done) | (go_simp; rfl)); intro g2 hg w2 hbox hb; have NB := Aside0.mk (below_step (by repeat (first | (with_reducible first | exact HB.out | apply below_alloc | apply pw_below_drewN | apply below_drew1) | exact HB.out)) hb); have G2 := Aside0.mk (show w.heap.size ≤ g2 by rw [hg]; exact below_size (by repeat (first | (with_reducible first | exact HB.out | apply below_alloc | apply pw_below_drewN | apply below_drew1) | exact HB.out))); have XB1 := Aside0.mk (blk_below (o := .cells #[.bool lf1, .slice A1 Ks.length c1, .slice A2 Vs.length c2, .slice A3 Cs.length c3] 25 (0, 0)) (by (with_reducible repeat (first | refine blk_drewN ?_ _ | refine blk_drew ?_ | refine blk_alloc ?_ _)); exact B1.out) hb); have N12 := Aside0.mk (show g1 ≠ g2 by rw [hg]; exact Nat.ne_of_lt (blk_lt (o := .cells #[.bool lf1, .slice A1 Ks.length c1, .slice A2 Vs.length c2, .slice A3 Cs.length c3] 25 (0, 0)) (by (with_reducible repeat (first | refine blk_drewN ?_ _ | refine blk_drew ?_ | refine blk_alloc ?_ _)); exact B1.out))); clear HB; have HB := NB; clear B1; have B1 := XB1; clear XB1; have B2 := Aside0.mk hbox; clear NB hb hbox hg) | ((with_reducible refine gate_dst (N := 6) rfl ?_); refine box_event ?hg (N := 6) ?hd (cs := #[.bool false, .slice none 0 0, .slice none 0 0, .slice none 0 0]) (t := 25) ?hr ?_; (case hd => rfl); (case hg => rfl); (case hr => first | (go_simp; done) | (go_simp; rfl)); intro g4 hg w3 hbox hb; have NB := Aside0.mk (below_step (by repeat (first | (with_reducible first | exact HB.out | apply below_alloc | apply pw_below_drewN | apply below_drew1) | exact HB.out)) hb); have G4 := Aside0.mk (show w.heap.size ≤ g4 by rw [hg]; exact below_size (by repeat (first | (with_reducible first | exact HB.out | apply below_alloc | apply pw_below_drewN | apply below_drew1) | exact HB.out))); have XB1 := Aside0.mk (blk_below (o := .cells #[.bool lf1, .slice A1 Ks.length c1, .slice A2 Vs.length c2, .slice A3 Cs.length c3] 25 (0, 0)) (by (with_reducible repeat (first | refine blk_drewN ?_ _ | refine blk_drew ?_ | refine blk_alloc ?_ _)); exact B1.out) hb); have N14 := Aside0.mk (show g1 ≠ g4 by rw [hg]; exact Nat.ne_of_lt (blk_lt (o := .cells #[.bool lf1, .slice A1 Ks.length c1, .slice A2 Vs.length c2, .slice A3 Cs.length c3] 25 (0, 0)) (by (with_reducible repeat (first | refine blk_drewN ?_ _ | refine blk_drew ?_ | refine blk_alloc ?_ _)); exact B1.out))); have XB2 := Aside0.mk (blk_below (o := .cells #[.bool lf2, .slice A4 Ls.length c4, .slice A5 Us.length c5, .slice A6 Ds.length c6] 25 (0, 0)) (by (with_reducible repeat (first | refine blk_drewN ?_ _ | refine blk_drew ?_ | refine blk_alloc ?_ _)); exact B2.out) hb); have N24 := Aside0.mk (show g2 ≠ g4 by rw [hg]; exact Nat.ne_of_lt (blk_lt (o := .cells #[.bool lf2, .slice A4 Ls.length c4, .slice A5 Us.length c5, .slice A6 Ds.length c6] 25 (0, 0)) (by (with_reducible repeat (first | refine blk_drewN ?_ _ | refine blk_drew ?_ | refine blk_alloc ?_ _)); exact B2.out))); clear HB; have HB := NB; clear B1; have B1 := XB1; clear XB1; clear B2; have B2 := XB2; clear XB2; have B4 := Aside0.mk hbox; clear NB hb hbox hg; have e0_ : w3.cell? ⟨g1, 0, none⟩ = some (.bool lf1) := (blk_cell B1.out 0).trans rfl; have e1_ : w3.cell? ⟨g1, 1, none⟩ = some (.slice A1 Ks.length c1) := (blk_cell B1.out 1).trans rfl; have e2_ : w3.cell? ⟨g1, 2, none⟩ = some (.slice A2 Vs.length c2) := (blk_cell B1.out 2).trans rfl; have e3_ : w3.cell? ⟨g1, 3, none⟩ = some (.slice A3 Cs.length c3) := (blk_cell B1.out 3).trans rfl; have f0_ : w3.cell? ⟨g2, 0, none⟩ = some (.bool lf2) := (blk_cell B2.out 0).trans rfl; have f1_ : w3.cell? ⟨g2, 1, none⟩ = some (.slice A4 Ls.length c4) := (blk_cell B2.out 1).trans rfl; have f2_ : w3.cell? ⟨g2, 2, none⟩ = some (.slice A5 Us.length c5) := (blk_cell B2.out 2).trans rfl; have f3_ : w3.cell? ⟨g2, 3, none⟩ = some (.slice A6 Ds.length c6) := (blk_cell B2.out 3).trans rfl))
  have n24 := N24.out
  have n14 := N14.out
  have n12 := N12.out
  cases b1
  case false =>
    rw [if_neg (by simp)] at h
    rw [Option.some.injEq] at h
    simp only [Prod.mk.injEq] at h
    obtain ⟨rfl, rfl, rfl, rfl, rfl⟩ := h
    go_wp2_with (go_at_call 32; with_reducible refine (node_stands.calls k lf1 _ _ Ks _ _ Vs _ _ Cs false _ ?s1 HC1.out ?s2 HC2.out ?s3 HC3.out S1.out).mono ?_; (case s1 => exact (by repeat (first | exact (Kd.C_below HR1.out HB.out) | (with_reducible refine Kd.C_alloc ?_ _) | (with_reducible refine Kd.C_drewN ?_ _) | (with_reducible refine Kd.C_drew ?_)))); (case s2 => exact (by repeat (first | exact (Kd.C_below HR2.out HB.out) | (with_reducible refine Kd.C_alloc ?_ _) | (with_reducible refine Kd.C_drewN ?_ _) | (with_reducible refine Kd.C_drew ?_)))); (case s3 => exact (by repeat (first | exact (Kd.C_below HR3.out HB.out) | (with_reducible refine Kd.C_alloc ?_ _) | (with_reducible refine Kd.C_drewN ?_ _) | (with_reducible refine Kd.C_drew ?_)))); rintro e w4 ⟨rfl, hb⟩; have XB1 := Aside0.mk (blk_below (o := .cells #[.bool lf1, .slice A1 Ks.length c1, .slice A2 Vs.length c2, .slice A3 Cs.length c3] 25 (0, 0)) (by (with_reducible repeat (first | refine blk_drewN ?_ _ | refine blk_drew ?_ | refine blk_alloc ?_ _)); exact B1.out) hb); have XB2 := Aside0.mk (blk_below (o := .cells #[.bool lf2, .slice A4 Ls.length c4, .slice A5 Us.length c5, .slice A6 Ds.length c6] 25 (0, 0)) (by (with_reducible repeat (first | refine blk_drewN ?_ _ | refine blk_drew ?_ | refine blk_alloc ?_ _)); exact B2.out) hb); have XB4 := Aside0.mk (blk_below (o := .cells #[.bool false, .slice none 0 0, .slice none 0 0, .slice none 0 0] 25 (0, 0)) (by (with_reducible repeat (first | refine blk_drewN ?_ _ | refine blk_drew ?_ | refine blk_alloc ?_ _)); exact B4.out) hb); have XB := Aside0.mk (below_step (by repeat (first | (with_reducible first | exact HB.out | apply below_alloc | apply pw_below_drewN | apply below_drew1) | exact HB.out)) hb); clear hb; clear B1 B2 B4 HB; have B1 := XB1; have B2 := XB2; have B4 := XB4; have HB := XB; clear XB1 XB2 XB4 XB; have e0_ : w4.cell? ⟨g1, 0, none⟩ = some (.bool lf1) := (blk_cell B1.out 0).trans rfl; have e1_ : w4.cell? ⟨g1, 1, none⟩ = some (.slice A1 Ks.length c1) := (blk_cell B1.out 1).trans rfl; have e2_ : w4.cell? ⟨g1, 2, none⟩ = some (.slice A2 Vs.length c2) := (blk_cell B1.out 2).trans rfl; have e3_ : w4.cell? ⟨g1, 3, none⟩ = some (.slice A3 Cs.length c3) := (blk_cell B1.out 3).trans rfl; have f0_ : w4.cell? ⟨g2, 0, none⟩ = some (.bool lf2) := (blk_cell B2.out 0).trans rfl; have f1_ : w4.cell? ⟨g2, 1, none⟩ = some (.slice A4 Ls.length c4) := (blk_cell B2.out 1).trans rfl; have f2_ : w4.cell? ⟨g2, 2, none⟩ = some (.slice A5 Us.length c5) := (blk_cell B2.out 2).trans rfl; have f3_ : w4.cell? ⟨g2, 3, none⟩ = some (.slice A6 Ds.length c6) := (blk_cell B2.out 3).trans rfl; have z0 : w4.cell? ⟨g4, 0, none⟩ = some (.bool false) := (blk_cell B4.out 0).trans rfl; have z1 : w4.cell? ⟨g4, 1, none⟩ = some (.slice none 0 0) := (blk_cell B4.out 1).trans rfl; have z2 : w4.cell? ⟨g4, 2, none⟩ = some (.slice none 0 0) := (blk_cell B4.out 2).trans rfl; have z3 : w4.cell? ⟨g4, 3, none⟩ = some (.slice none 0 0) := (blk_cell B4.out 3).trans rfl; have zf0 := blk_frozen B4.out 0; have zf1 := blk_frozen B4.out 1; have zf2 := blk_frozen B4.out 2; have zf3 := blk_frozen B4.out 3)
    all_goals (refine bodyPost_ret (results_list (rs := [.cell 6 25, .tmp 7]) rfl (by simp) (.cell g4 25 #[.bool false, .slice none 0 0, .slice none 0 0, .slice none 0 0] (0, 0) _ rfl (set4_put B4.out) Try.underlying25 rfl (by kernel_rfl) (.tmp .nil))) rfl ?_; exact ⟨_, _, _, rfl, Kd.R_nil _ _ _ _ _, Kd.R_nil _ _ _ _ _, Kd.R_nil _ _ _ _ _, set4_below HB.out G4.out⟩)
  rw [if_pos rfl] at h
  obtain ⟨b2, hs, h⟩ := Option.bind_eq_some_iff.1 h
  have S2 := Aside0.mk hs
  clear hs
  cases b2
  case false =>
    rw [if_neg (by simp)] at h
    rw [Option.some.injEq] at h
    simp only [Prod.mk.injEq] at h
    obtain ⟨rfl, rfl, rfl, rfl, rfl⟩ := h
    go_wp2_with (first | (go_at_call 32; with_reducible refine (node_stands.calls k lf1 _ _ Ks _ _ Vs _ _ Cs true _ ?s1 HC1.out ?s2 HC2.out ?s3 HC3.out S1.out).mono ?_; (case s1 => exact (by repeat (first | exact (Kd.C_below HR1.out HB.out) | (with_reducible refine Kd.C_alloc ?_ _) | (with_reducible refine Kd.C_drewN ?_ _) | (with_reducible refine Kd.C_drew ?_)))); (case s2 => exact (by repeat (first | exact (Kd.C_below HR2.out HB.out) | (with_reducible refine Kd.C_alloc ?_ _) | (with_reducible refine Kd.C_drewN ?_ _) | (with_reducible refine Kd.C_drew ?_)))); (case s3 => exact (by repeat (first | exact (Kd.C_below HR3.out HB.out) | (with_reducible refine Kd.C_alloc ?_ _) | (with_reducible refine Kd.C_drewN ?_ _) | (with_reducible refine Kd.C_drew ?_)))); rintro e w4 ⟨rfl, hb⟩; have XB1 := Aside0.mk (blk_below (o := .cells #[.bool lf1, .slice A1 Ks.length c1, .slice A2 Vs.length c2, .slice A3 Cs.length c3] 25 (0, 0)) (by (with_reducible repeat (first | refine blk_drewN ?_ _ | refine blk_drew ?_ | refine blk_alloc ?_ _)); exact B1.out) hb); have XB2 := Aside0.mk (blk_below (o := .cells #[.bool lf2, .slice A4 Ls.length c4, .slice A5 Us.length c5, .slice A6 Ds.length c6] 25 (0, 0)) (by (with_reducible repeat (first | refine blk_drewN ?_ _ | refine blk_drew ?_ | refine blk_alloc ?_ _)); exact B2.out) hb); have XB4 := Aside0.mk (blk_below (o := .cells #[.bool false, .slice none 0 0, .slice none 0 0, .slice none 0 0] 25 (0, 0)) (by (with_reducible repeat (first | refine blk_drewN ?_ _ | refine blk_drew ?_ | refine blk_alloc ?_ _)); exact B4.out) hb); have XB := Aside0.mk (below_step (by repeat (first | (with_reducible first | exact HB.out | apply below_alloc | apply pw_below_drewN | apply below_drew1) | exact HB.out)) hb); clear hb; clear B1 B2 B4 HB; have B1 := XB1; have B2 := XB2; have B4 := XB4; have HB := XB; clear XB1 XB2 XB4 XB; have e0_ : w4.cell? ⟨g1, 0, none⟩ = some (.bool lf1) := (blk_cell B1.out 0).trans rfl; have e1_ : w4.cell? ⟨g1, 1, none⟩ = some (.slice A1 Ks.length c1) := (blk_cell B1.out 1).trans rfl; have e2_ : w4.cell? ⟨g1, 2, none⟩ = some (.slice A2 Vs.length c2) := (blk_cell B1.out 2).trans rfl; have e3_ : w4.cell? ⟨g1, 3, none⟩ = some (.slice A3 Cs.length c3) := (blk_cell B1.out 3).trans rfl; have f0_ : w4.cell? ⟨g2, 0, none⟩ = some (.bool lf2) := (blk_cell B2.out 0).trans rfl; have f1_ : w4.cell? ⟨g2, 1, none⟩ = some (.slice A4 Ls.length c4) := (blk_cell B2.out 1).trans rfl; have f2_ : w4.cell? ⟨g2, 2, none⟩ = some (.slice A5 Us.length c5) := (blk_cell B2.out 2).trans rfl; have f3_ : w4.cell? ⟨g2, 3, none⟩ = some (.slice A6 Ds.length c6) := (blk_cell B2.out 3).trans rfl; have z0 : w4.cell? ⟨g4, 0, none⟩ = some (.bool false) := (blk_cell B4.out 0).trans rfl; have z1 : w4.cell? ⟨g4, 1, none⟩ = some (.slice none 0 0) := (blk_cell B4.out 1).trans rfl; have z2 : w4.cell? ⟨g4, 2, none⟩ = some (.slice none 0 0) := (blk_cell B4.out 2).trans rfl; have z3 : w4.cell? ⟨g4, 3, none⟩ = some (.slice none 0 0) := (blk_cell B4.out 3).trans rfl; have zf0 := blk_frozen B4.out 0; have zf1 := blk_frozen B4.out 1; have zf2 := blk_frozen B4.out 2; have zf3 := blk_frozen B4.out 3) | (go_at_call 32; with_reducible refine (node_stands.calls k lf2 _ _ Ls _ _ Us _ _ Ds false _ ?s4 HC4.out ?s5 HC5.out ?s6 HC6.out S2.out).mono ?_; (case s4 => exact (by repeat (first | exact (Kd.C_below HR4.out HB.out) | (with_reducible refine Kd.C_alloc ?_ _) | (with_reducible refine Kd.C_drewN ?_ _) | (with_reducible refine Kd.C_drew ?_)))); (case s5 => exact (by repeat (first | exact (Kd.C_below HR5.out HB.out) | (with_reducible refine Kd.C_alloc ?_ _) | (with_reducible refine Kd.C_drewN ?_ _) | (with_reducible refine Kd.C_drew ?_)))); (case s6 => exact (by repeat (first | exact (Kd.C_below HR6.out HB.out) | (with_reducible refine Kd.C_alloc ?_ _) | (with_reducible refine Kd.C_drewN ?_ _) | (with_reducible refine Kd.C_drew ?_)))); rintro e w5 ⟨rfl, hb⟩; have XB1 := Aside0.mk (blk_below (o := .cells #[.bool lf1, .slice A1 Ks.length c1, .slice A2 Vs.length c2, .slice A3 Cs.length c3] 25 (0, 0)) (by (with_reducible repeat (first | refine blk_drewN ?_ _ | refine blk_drew ?_ | refine blk_alloc ?_ _)); exact B1.out) hb); have XB2 := Aside0.mk (blk_below (o := .cells #[.bool lf2, .slice A4 Ls.length c4, .slice A5 Us.length c5, .slice A6 Ds.length c6] 25 (0, 0)) (by (with_reducible repeat (first | refine blk_drewN ?_ _ | refine blk_drew ?_ | refine blk_alloc ?_ _)); exact B2.out) hb); have XB4 := Aside0.mk (blk_below (o := .cells #[.bool false, .slice none 0 0, .slice none 0 0, .slice none 0 0] 25 (0, 0)) (by (with_reducible repeat (first | refine blk_drewN ?_ _ | refine blk_drew ?_ | refine blk_alloc ?_ _)); exact B4.out) hb); have XB := Aside0.mk (below_step (by repeat (first | (with_reducible first | exact HB.out | apply below_alloc | apply pw_below_drewN | apply below_drew1) | exact HB.out)) hb); clear hb; clear B1 B2 B4 HB; have B1 := XB1; have B2 := XB2; have B4 := XB4; have HB := XB; clear XB1 XB2 XB4 XB; have e0_ : w5.cell? ⟨g1, 0, none⟩ = some (.bool lf1) := (blk_cell B1.out 0).trans rfl; have e1_ : w5.cell? ⟨g1, 1, none⟩ = some (.slice A1 Ks.length c1) := (blk_cell B1.out 1).trans rfl; have e2_ : w5.cell? ⟨g1, 2, none⟩ = some (.slice A2 Vs.length c2) := (blk_cell B1.out 2).trans rfl; have e3_ : w5.cell? ⟨g1, 3, none⟩ = some (.slice A3 Cs.length c3) := (blk_cell B1.out 3).trans rfl; have f0_ : w5.cell? ⟨g2, 0, none⟩ = some (.bool lf2) := (blk_cell B2.out 0).trans rfl; have f1_ : w5.cell? ⟨g2, 1, none⟩ = some (.slice A4 Ls.length c4) := (blk_cell B2.out 1).trans rfl; have f2_ : w5.cell? ⟨g2, 2, none⟩ = some (.slice A5 Us.length c5) := (blk_cell B2.out 2).trans rfl; have f3_ : w5.cell? ⟨g2, 3, none⟩ = some (.slice A6 Ds.length c6) := (blk_cell B2.out 3).trans rfl; have z0 : w5.cell? ⟨g4, 0, none⟩ = some (.bool false) := (blk_cell B4.out 0).trans rfl; have z1 : w5.cell? ⟨g4, 1, none⟩ = some (.slice none 0 0) := (blk_cell B4.out 1).trans rfl; have z2 : w5.cell? ⟨g4, 2, none⟩ = some (.slice none 0 0) := (blk_cell B4.out 2).trans rfl; have z3 : w5.cell? ⟨g4, 3, none⟩ = some (.slice none 0 0) := (blk_cell B4.out 3).trans rfl; have zf0 := blk_frozen B4.out 0; have zf1 := blk_frozen B4.out 1; have zf2 := blk_frozen B4.out 2; have zf3 := blk_frozen B4.out 3))
    all_goals (refine bodyPost_ret (results_list (rs := [.cell 6 25, .tmp 7]) rfl (by simp) (.cell g4 25 #[.bool false, .slice none 0 0, .slice none 0 0, .slice none 0 0] (0, 0) _ rfl (set4_put B4.out) Try.underlying25 rfl (by kernel_rfl) (.tmp .nil))) rfl ?_; exact ⟨_, _, _, rfl, Kd.R_nil _ _ _ _ _, Kd.R_nil _ _ _ _ _, Kd.R_nil _ _ _ _ _, set4_below HB.out G4.out⟩)
  rw [if_pos rfl] at h
  by_cases el : lf1 = lf2
  case neg =>
    rw [if_neg el] at h
    have el1 : (lf1 != lf2) = true := by simpa using el
    have el2 : (lf1 == lf2) = false := by simpa using el
    have el3 : decide (lf1 = lf2) = false := by simpa using el
    rw [Option.some.injEq] at h
    simp only [Prod.mk.injEq] at h
    obtain ⟨rfl, rfl, rfl, rfl, rfl⟩ := h
    go_wp2_with (first | (go_at_call 32; with_reducible refine (node_stands.calls k lf1 _ _ Ks _ _ Vs _ _ Cs true _ ?s1 HC1.out ?s2 HC2.out ?s3 HC3.out S1.out).mono ?_; (case s1 => exact (by repeat (first | exact (Kd.C_below HR1.out HB.out) | (with_reducible refine Kd.C_alloc ?_ _) | (with_reducible refine Kd.C_drewN ?_ _) | (with_reducible refine Kd.C_drew ?_)))); (case s2 => exact (by repeat (first | exact (Kd.C_below HR2.out HB.out) | (with_reducible refine Kd.C_alloc ?_ _) | (with_reducible refine Kd.C_drewN ?_ _) | (with_reducible refine Kd.C_drew ?_)))); (case s3 => exact (by repeat (first | exact (Kd.C_below HR3.out HB.out) | (with_reducible refine Kd.C_alloc ?_ _) | (with_reducible refine Kd.C_drewN ?_ _) | (with_reducible refine Kd.C_drew ?_)))); rintro e w4 ⟨rfl, hb⟩; have XB1 := Aside0.mk (blk_below (o := .cells #[.bool lf1, .slice A1 Ks.length c1, .slice A2 Vs.length c2, .slice A3 Cs.length c3] 25 (0, 0)) (by (with_reducible repeat (first | refine blk_drewN ?_ _ | refine blk_drew ?_ | refine blk_alloc ?_ _)); exact B1.out) hb); have XB2 := Aside0.mk (blk_below (o := .cells #[.bool lf2, .slice A4 Ls.length c4, .slice A5 Us.length c5, .slice A6 Ds.length c6] 25 (0, 0)) (by (with_reducible repeat (first | refine blk_drewN ?_ _ | refine blk_drew ?_ | refine blk_alloc ?_ _)); exact B2.out) hb); have XB4 := Aside0.mk (blk_below (o := .cells #[.bool false, .slice none 0 0, .slice none 0 0, .slice none 0 0] 25 (0, 0)) (by (with_reducible repeat (first | refine blk_drewN ?_ _ | refine blk_drew ?_ | refine blk_alloc ?_ _)); exact B4.out) hb); have XB := Aside0.mk (below_step (by repeat (first | (with_reducible first | exact HB.out | apply below_alloc | apply pw_below_drewN | apply below_drew1) | exact HB.out)) hb); clear hb; clear B1 B2 B4 HB; have B1 := XB1; have B2 := XB2; have B4 := XB4; have HB := XB; clear XB1 XB2 XB4 XB; have e0_ : w4.cell? ⟨g1, 0, none⟩ = some (.bool lf1) := (blk_cell B1.out 0).trans rfl; have e1_ : w4.cell? ⟨g1, 1, none⟩ = some (.slice A1 Ks.length c1) := (blk_cell B1.out 1).trans rfl; have e2_ : w4.cell? ⟨g1, 2, none⟩ = some (.slice A2 Vs.length c2) := (blk_cell B1.out 2).trans rfl; have e3_ : w4.cell? ⟨g1, 3, none⟩ = some (.slice A3 Cs.length c3) := (blk_cell B1.out 3).trans rfl; have f0_ : w4.cell? ⟨g2, 0, none⟩ = some (.bool lf2) := (blk_cell B2.out 0).trans rfl; have f1_ : w4.cell? ⟨g2, 1, none⟩ = some (.slice A4 Ls.length c4) := (blk_cell B2.out 1).trans rfl; have f2_ : w4.cell? ⟨g2, 2, none⟩ = some (.slice A5 Us.length c5) := (blk_cell B2.out 2).trans rfl; have f3_ : w4.cell? ⟨g2, 3, none⟩ = some (.slice A6 Ds.length c6) := (blk_cell B2.out 3).trans rfl; have z0 : w4.cell? ⟨g4, 0, none⟩ = some (.bool false) := (blk_cell B4.out 0).trans rfl; have z1 : w4.cell? ⟨g4, 1, none⟩ = some (.slice none 0 0) := (blk_cell B4.out 1).trans rfl; have z2 : w4.cell? ⟨g4, 2, none⟩ = some (.slice none 0 0) := (blk_cell B4.out 2).trans rfl; have z3 : w4.cell? ⟨g4, 3, none⟩ = some (.slice none 0 0) := (blk_cell B4.out 3).trans rfl; have zf0 := blk_frozen B4.out 0; have zf1 := blk_frozen B4.out 1; have zf2 := blk_frozen B4.out 2; have zf3 := blk_frozen B4.out 3) | (go_at_call 32; with_reducible refine (node_stands.calls k lf2 _ _ Ls _ _ Us _ _ Ds true _ ?s4 HC4.out ?s5 HC5.out ?s6 HC6.out S2.out).mono ?_; (case s4 => exact (by repeat (first | exact (Kd.C_below HR4.out HB.out) | (with_reducible refine Kd.C_alloc ?_ _) | (with_reducible refine Kd.C_drewN ?_ _) | (with_reducible refine Kd.C_drew ?_)))); (case s5 => exact (by repeat (first | exact (Kd.C_below HR5.out HB.out) | (with_reducible refine Kd.C_alloc ?_ _) | (with_reducible refine Kd.C_drewN ?_ _) | (with_reducible refine Kd.C_drew ?_)))); (case s6 => exact (by repeat (first | exact (Kd.C_below HR6.out HB.out) | (with_reducible refine Kd.C_alloc ?_ _) | (with_reducible refine Kd.C_drewN ?_ _) | (with_reducible refine Kd.C_drew ?_)))); rintro e w5 ⟨rfl, hb⟩; have XB1 := Aside0.mk (blk_below (o := .cells #[.bool lf1, .slice A1 Ks.length c1, .slice A2 Vs.length c2, .slice A3 Cs.length c3] 25 (0, 0)) (by (with_reducible repeat (first | refine blk_drewN ?_ _ | refine blk_drew ?_ | refine blk_alloc ?_ _)); exact B1.out) hb); have XB2 := Aside0.mk (blk_below (o := .cells #[.bool lf2, .slice A4 Ls.length c4, .slice A5 Us.length c5, .slice A6 Ds.length c6] 25 (0, 0)) (by (with_reducible repeat (first | refine blk_drewN ?_ _ | refine blk_drew ?_ | refine blk_alloc ?_ _)); exact B2.out) hb); have XB4 := Aside0.mk (blk_below (o := .cells #[.bool false, .slice none 0 0, .slice none 0 0, .slice none 0 0] 25 (0, 0)) (by (with_reducible repeat (first | refine blk_drewN ?_ _ | refine blk_drew ?_ | refine blk_alloc ?_ _)); exact B4.out) hb); have XB := Aside0.mk (below_step (by repeat (first | (with_reducible first | exact HB.out | apply below_alloc | apply pw_below_drewN | apply below_drew1) | exact HB.out)) hb); clear hb; clear B1 B2 B4 HB; have B1 := XB1; have B2 := XB2; have B4 := XB4; have HB := XB; clear XB1 XB2 XB4 XB; have e0_ : w5.cell? ⟨g1, 0, none⟩ = some (.bool lf1) := (blk_cell B1.out 0).trans rfl; have e1_ : w5.cell? ⟨g1, 1, none⟩ = some (.slice A1 Ks.length c1) := (blk_cell B1.out 1).trans rfl; have e2_ : w5.cell? ⟨g1, 2, none⟩ = some (.slice A2 Vs.length c2) := (blk_cell B1.out 2).trans rfl; have e3_ : w5.cell? ⟨g1, 3, none⟩ = some (.slice A3 Cs.length c3) := (blk_cell B1.out 3).trans rfl; have f0_ : w5.cell? ⟨g2, 0, none⟩ = some (.bool lf2) := (blk_cell B2.out 0).trans rfl; have f1_ : w5.cell? ⟨g2, 1, none⟩ = some (.slice A4 Ls.length c4) := (blk_cell B2.out 1).trans rfl; have f2_ : w5.cell? ⟨g2, 2, none⟩ = some (.slice A5 Us.length c5) := (blk_cell B2.out 2).trans rfl; have f3_ : w5.cell? ⟨g2, 3, none⟩ = some (.slice A6 Ds.length c6) := (blk_cell B2.out 3).trans rfl; have z0 : w5.cell? ⟨g4, 0, none⟩ = some (.bool false) := (blk_cell B4.out 0).trans rfl; have z1 : w5.cell? ⟨g4, 1, none⟩ = some (.slice none 0 0) := (blk_cell B4.out 1).trans rfl; have z2 : w5.cell? ⟨g4, 2, none⟩ = some (.slice none 0 0) := (blk_cell B4.out 2).trans rfl; have z3 : w5.cell? ⟨g4, 3, none⟩ = some (.slice none 0 0) := (blk_cell B4.out 3).trans rfl; have zf0 := blk_frozen B4.out 0; have zf1 := blk_frozen B4.out 1; have zf2 := blk_frozen B4.out 2; have zf3 := blk_frozen B4.out 3))
    all_goals (refine bodyPost_ret (results_list (rs := [.cell 6 25, .tmp 7]) rfl (by simp) (.cell g4 25 #[.bool false, .slice none 0 0, .slice none 0 0, .slice none 0 0] (0, 0) _ rfl (set4_put B4.out) Try.underlying25 rfl (by kernel_rfl) (.tmp .nil))) rfl ?_; exact ⟨_, _, _, rfl, Kd.R_nil _ _ _ _ _, Kd.R_nil _ _ _ _ _, Kd.R_nil _ _ _ _ _, set4_below HB.out G4.out⟩)
  subst el
  rw [if_pos rfl] at h
  obtain ⟨ks_, q0, h⟩ := Option.bind_eq_some_iff.1 h
  have T1 := Aside0.mk q0
  clear q0
  obtain ⟨vs_, q1, h⟩ := Option.bind_eq_some_iff.1 h
  have T2 := Aside0.mk q1
  clear q1
  obtain ⟨cs_, q2, h⟩ := Option.bind_eq_some_iff.1 h
  have T3 := Aside0.mk q2
  clear q2
  have H3 := h
  have el1 : (lf1 != lf1) = false := by simp
  have el2 : (lf1 == lf1) = true := by simp
  have el3 : decide (lf1 = lf1) = true := by simp
  go_upto_region 3 with (first | (go_at_call 32; with_reducible refine (node_stands.calls k lf1 _ _ Ks _ _ Vs _ _ Cs true _ ?s1 HC1.out ?s2 HC2.out ?s3 HC3.out S1.out).mono ?_; (case s1 => exact (by repeat (first | exact (Kd.C_below HR1.out HB.out) | (with_reducible refine Kd.C_alloc ?_ _) | (with_reducible refine Kd.C_drewN ?_ _) | (with_reducible refine Kd.C_drew ?_)))); (case s2 => exact (by repeat (first | exact (Kd.C_below HR2.out HB.out) | (with_reducible refine Kd.C_alloc ?_ _) | (with_reducible refine Kd.C_drewN ?_ _) | (with_reducible refine Kd.C_drew ?_)))); (case s3 => exact (by repeat (first | exact (Kd.C_below HR3.out HB.out) | (with_reducible refine Kd.C_alloc ?_ _) | (with_reducible refine Kd.C_drewN ?_ _) | (with_reducible refine Kd.C_drew ?_)))); rintro e w4 ⟨rfl, hb⟩; have XB1 := Aside0.mk (blk_below (o := .cells #[.bool lf1, .slice A1 Ks.length c1, .slice A2 Vs.length c2, .slice A3 Cs.length c3] 25 (0, 0)) (by (with_reducible repeat (first | refine blk_drewN ?_ _ | refine blk_drew ?_ | refine blk_alloc ?_ _)); exact B1.out) hb); have XB2 := Aside0.mk (blk_below (o := .cells #[.bool lf1, .slice A4 Ls.length c4, .slice A5 Us.length c5, .slice A6 Ds.length c6] 25 (0, 0)) (by (with_reducible repeat (first | refine blk_drewN ?_ _ | refine blk_drew ?_ | refine blk_alloc ?_ _)); exact B2.out) hb); have XB4 := Aside0.mk (blk_below (o := .cells #[.bool false, .slice none 0 0, .slice none 0 0, .slice none 0 0] 25 (0, 0)) (by (with_reducible repeat (first | refine blk_drewN ?_ _ | refine blk_drew ?_ | refine blk_alloc ?_ _)); exact B4.out) hb); have XB := Aside0.mk (below_step (by repeat (first | (with_reducible first | exact HB.out | apply below_alloc | apply pw_below_drewN | apply below_drew1) | exact HB.out)) hb); clear hb; clear B1 B2 B4 HB; have B1 := XB1; have B2 := XB2; have B4 := XB4; have HB := XB; clear XB1 XB2 XB4 XB; have e0_ : w4.cell? ⟨g1, 0, none⟩ = some (.bool lf1) := (blk_cell B1.out 0).trans rfl; have e1_ : w4.cell? ⟨g1, 1, none⟩ = some (.slice A1 Ks.length c1) := (blk_cell B1.out 1).trans rfl; have e2_ : w4.cell? ⟨g1, 2, none⟩ = some (.slice A2 Vs.length c2) := (blk_cell B1.out 2).trans rfl; have e3_ : w4.cell? ⟨g1, 3, none⟩ = some (.slice A3 Cs.length c3) := (blk_cell B1.out 3).trans rfl; have f0_ : w4.cell? ⟨g2, 0, none⟩ = some (.bool lf1) := (blk_cell B2.out 0).trans rfl; have f1_ : w4.cell? ⟨g2, 1, none⟩ = some (.slice A4 Ls.length c4) := (blk_cell B2.out 1).trans rfl; have f2_ : w4.cell? ⟨g2, 2, none⟩ = some (.slice A5 Us.length c5) := (blk_cell B2.out 2).trans rfl; have f3_ : w4.cell? ⟨g2, 3, none⟩ = some (.slice A6 Ds.length c6) := (blk_cell B2.out 3).trans rfl; have z0 : w4.cell? ⟨g4, 0, none⟩ = some (.bool false) := (blk_cell B4.out 0).trans rfl; have z1 : w4.cell? ⟨g4, 1, none⟩ = some (.slice none 0 0) := (blk_cell B4.out 1).trans rfl; have z2 : w4.cell? ⟨g4, 2, none⟩ = some (.slice none 0 0) := (blk_cell B4.out 2).trans rfl; have z3 : w4.cell? ⟨g4, 3, none⟩ = some (.slice none 0 0) := (blk_cell B4.out 3).trans rfl; have zf0 := blk_frozen B4.out 0; have zf1 := blk_frozen B4.out 1; have zf2 := blk_frozen B4.out 2; have zf3 := blk_frozen B4.out 3) | (go_at_call 32; with_reducible refine (node_stands.calls k lf1 _ _ Ls _ _ Us _ _ Ds true _ ?s4 HC4.out ?s5 HC5.out ?s6 HC6.out S2.out).mono ?_; (case s4 => exact (by repeat (first | exact (Kd.C_below HR4.out HB.out) | (with_reducible refine Kd.C_alloc ?_ _) | (with_reducible refine Kd.C_drewN ?_ _) | (with_reducible refine Kd.C_drew ?_)))); (case s5 => exact (by repeat (first | exact (Kd.C_below HR5.out HB.out) | (with_reducible refine Kd.C_alloc ?_ _) | (with_reducible refine Kd.C_drewN ?_ _) | (with_reducible refine Kd.C_drew ?_)))); (case s6 => exact (by repeat (first | exact (Kd.C_below HR6.out HB.out) | (with_reducible refine Kd.C_alloc ?_ _) | (with_reducible refine Kd.C_drewN ?_ _) | (with_reducible refine Kd.C_drew ?_)))); rintro e w5 ⟨rfl, hb⟩; have XB1 := Aside0.mk (blk_below (o := .cells #[.bool lf1, .slice A1 Ks.length c1, .slice A2 Vs.length c2, .slice A3 Cs.length c3] 25 (0, 0)) (by (with_reducible repeat (first | refine blk_drewN ?_ _ | refine blk_drew ?_ | refine blk_alloc ?_ _)); exact B1.out) hb); have XB2 := Aside0.mk (blk_below (o := .cells #[.bool lf1, .slice A4 Ls.length c4, .slice A5 Us.length c5, .slice A6 Ds.length c6] 25 (0, 0)) (by (with_reducible repeat (first | refine blk_drewN ?_ _ | refine blk_drew ?_ | refine blk_alloc ?_ _)); exact B2.out) hb); have XB4 := Aside0.mk (blk_below (o := .cells #[.bool false, .slice none 0 0, .slice none 0 0, .slice none 0 0] 25 (0, 0)) (by (with_reducible repeat (first | refine blk_drewN ?_ _ | refine blk_drew ?_ | refine blk_alloc ?_ _)); exact B4.out) hb); have XB := Aside0.mk (below_step (by repeat (first | (with_reducible first | exact HB.out | apply below_alloc | apply pw_below_drewN | apply below_drew1) | exact HB.out)) hb); clear hb; clear B1 B2 B4 HB; have B1 := XB1; have B2 := XB2; have B4 := XB4; have HB := XB; clear XB1 XB2 XB4 XB; have e0_ : w5.cell? ⟨g1, 0, none⟩ = some (.bool lf1) := (blk_cell B1.out 0).trans rfl; have e1_ : w5.cell? ⟨g1, 1, none⟩ = some (.slice A1 Ks.length c1) := (blk_cell B1.out 1).trans rfl; have e2_ : w5.cell? ⟨g1, 2, none⟩ = some (.slice A2 Vs.length c2) := (blk_cell B1.out 2).trans rfl; have e3_ : w5.cell? ⟨g1, 3, none⟩ = some (.slice A3 Cs.length c3) := (blk_cell B1.out 3).trans rfl; have f0_ : w5.cell? ⟨g2, 0, none⟩ = some (.bool lf1) := (blk_cell B2.out 0).trans rfl; have f1_ : w5.cell? ⟨g2, 1, none⟩ = some (.slice A4 Ls.length c4) := (blk_cell B2.out 1).trans rfl; have f2_ : w5.cell? ⟨g2, 2, none⟩ = some (.slice A5 Us.length c5) := (blk_cell B2.out 2).trans rfl; have f3_ : w5.cell? ⟨g2, 3, none⟩ = some (.slice A6 Ds.length c6) := (blk_cell B2.out 3).trans rfl; have z0 : w5.cell? ⟨g4, 0, none⟩ = some (.bool false) := (blk_cell B4.out 0).trans rfl; have z1 : w5.cell? ⟨g4, 1, none⟩ = some (.slice none 0 0) := (blk_cell B4.out 1).trans rfl; have z2 : w5.cell? ⟨g4, 2, none⟩ = some (.slice none 0 0) := (blk_cell B4.out 2).trans rfl; have z3 : w5.cell? ⟨g4, 3, none⟩ = some (.slice none 0 0) := (blk_cell B4.out 3).trans rfl; have zf0 := blk_frozen B4.out 0; have zf1 := blk_frozen B4.out 1; have zf2 := blk_frozen B4.out 2; have zf3 := blk_frozen B4.out 3))
  obtain ⟨a_, ha_⟩ : ∃ a_ : Array Value, a_ = #[.bool lf1, .slice A1 Ks.length c1, .slice A2 Vs.length c2, .slice A3 Cs.length c3] := ⟨_, rfl⟩
  obtain ⟨b_, hb_⟩ : ∃ b_ : Array Value, b_ = #[.bool lf1, .slice A4 Ls.length c4, .slice A5 Us.length c5, .slice A6 Ds.length c6] := ⟨_, rfl⟩
  have X1 : Aside0 (Bk w5 g1 a_) := ⟨by rw [ha_]; exact B1.out⟩
  have X2 : Aside0 (Bk w5 g2 b_) := ⟨by rw [hb_]; exact B2.out⟩
  have X4 : Aside0 (Bk w5 g4 Z4) := ⟨B4.out⟩
  clear B1 B2 B4
  have B1 := X1
  have B2 := X2
  have B4 := X4
  clear X1 X2 X4
  clear e0_ f0_ z0 zf0 e1_ f1_ z1 zf1 e2_ f2_ z2 zf2 e3_ f3_ z3 zf3
  have n0_ := Aside0.mk (below_drew1 HB.out)
  have n1_ := Aside0.mk (blk_drew B1.out)
  have n2_ := Aside0.mk (blk_drew B2.out)
  have n3_ := Aside0.mk (blk_drew B4.out)
  clear HB B1 B2 B4
  have HB := n0_
  have B1 := n1_
  have B2 := n2_
  have B4 := n3_
  clear n0_ n1_ n2_ n3_
  refine start_ (n := 23) (S := fun w' => w'.cell? ⟨g1, 0, none⟩ = some (.bool lf1) ∧ w'.cell? ⟨g1, 1, none⟩ = some (.slice A1 Ks.length c1) ∧ w'.cell? ⟨g2, 1, none⟩ = some (.slice A4 Ls.length c4) ∧ w'.cell? ⟨g1, 2, none⟩ = some (.slice A2 Vs.length c2) ∧ w'.cell? ⟨g2, 2, none⟩ = some (.slice A5 Us.length c5) ∧ w'.cell? ⟨g1, 3, none⟩ = some (.slice A3 Cs.length c3) ∧ w'.cell? ⟨g2, 3, none⟩ = some (.slice A6 Ds.length c6)) (ds := [22]) #[false, false, false, false, false, false, false, false, false, false, false, false, false, false, false, false, false, false, false, false, false, false, false] (by kernel_rfl) rfl rfl (held7 ha_ hb_ (B1.out) (B2.out)) (fun hHeld => ?_)
  generalize w5.drew = p3 at HB B1 B2 B4 hHeld ⊢
  refine pure_ (i := 0) (N := some 25) (v := ?_) (a' := ?_) #[true, false, false, false, false, false, false, false, false, false, false, false, false, false, false, false, false, false, false, false, false, false, false] rfl rfl (by kernel_rfl) (fun _ _ _ h => h) (Or.inl ⟨by rfl, ?_⟩) ?_ ?_
  rotate_left
  · intro w'
    go_simp
    with_reducible rfl
  rotate_left
  · simp only [Act.put, List.setIfInBounds_toArray, List.set_cons_zero, List.set_cons_succ, i64_w, i32_w]
    rfl
  refine pure_ (i := 2) (N := some 27) (v := ?_) (a' := ?_) #[true, false, true, false, false, false, false, false, false, false, false, false, false, false, false, false, false, false, false, false, false, false, false] rfl rfl (by kernel_rfl) (fun _ _ _ h => h) (Or.inl ⟨by rfl, ?_⟩) ?_ ?_
  rotate_left
  · intro w'
    go_simp
    with_reducible rfl
  rotate_left
  · simp only [Act.put, List.setIfInBounds_toArray, List.set_cons_zero, List.set_cons_succ, i64_w, i32_w]
    rfl
  refine pure_ (i := 4) (N := some 29) (v := ?_) (a' := ?_) #[true, false, true, false, true, false, false, false, false, false, false, false, false, false, false, false, false, false, false, false, false, false, false] rfl rfl (by kernel_rfl) (fun _ _ _ h => h) (Or.inl ⟨by rfl, ?_⟩) ?_ ?_
  rotate_left
  · intro w'
    go_simp
    with_reducible rfl
  rotate_left
  · simp only [Act.put, List.setIfInBounds_toArray, List.set_cons_zero, List.set_cons_succ, i64_w, i32_w]
    rfl
  refine pure_ (i := 8) (N := some 33) (v := ?_) (a' := ?_) #[true, false, true, false, true, false, false, false, true, false, false, false, false, false, false, false, false, false, false, false, false, false, false] rfl rfl (by kernel_rfl) (fun _ _ _ h => h) (Or.inl ⟨by rfl, ?_⟩) ?_ ?_
  rotate_left
  · intro w'
    go_simp
    with_reducible rfl
  rotate_left
  · simp only [Act.put, List.setIfInBounds_toArray, List.set_cons_zero, List.set_cons_succ, i64_w, i32_w]
    rfl
  refine pure_ (i := 10) (N := some 35) (v := ?_) (a' := ?_) #[true, false, true, false, true, false, false, false, true, false, true, false, false, false, false, false, false, false, false, false, false, false, false] rfl rfl (by kernel_rfl) (fun _ _ _ h => h) (Or.inl ⟨by rfl, ?_⟩) ?_ ?_
  rotate_left
  · intro w'
    go_simp
    with_reducible rfl
  rotate_left
  · simp only [Act.put, List.setIfInBounds_toArray, List.set_cons_zero, List.set_cons_succ, i64_w, i32_w]
    rfl
  refine pure_ (i := 14) (N := some 39) (v := ?_) (a' := ?_) #[true, false, true, false, true, false, false, false, true, false, true, false, false, false, true, false, false, false, false, false, false, false, false] rfl rfl (by kernel_rfl) (fun _ _ _ h => h) (Or.inl ⟨by rfl, ?_⟩) ?_ ?_
  rotate_left
  · intro w'
    go_simp
    with_reducible rfl
  rotate_left
  · simp only [Act.put, List.setIfInBounds_toArray, List.set_cons_zero, List.set_cons_succ, i64_w, i32_w]
    rfl
  refine pure_ (i := 16) (N := some 41) (v := ?_) (a' := ?_) #[true, false, true, false, true, false, false, false, true, false, true, false, false, false, true, false, true, false, false, false, false, false, false] rfl rfl (by kernel_rfl) (fun _ _ _ h => h) (Or.inl ⟨by rfl, ?_⟩) ?_ ?_
  rotate_left
  · intro w'
    go_simp
    with_reducible rfl
  rotate_left
  · simp only [Act.put, List.setIfInBounds_toArray, List.set_cons_zero, List.set_cons_succ, i64_w, i32_w]
    rfl
  refine take_ (i := 1) (N := some 26) (v := ?_) (a' := ?_) #[true, true, true, false, true, false, false, false, true, false, true, false, false, false, true, false, true, false, false, false, false, false, false] rfl rfl (by kernel_rfl) (fun _ _ _ h => h) (Or.inl ⟨by rfl, ?_⟩) hHeld ?_ ?_
  rotate_left
  · intro w' s0
    go_simp
    with_reducible rfl
  rotate_left
  · simp only [Act.put, List.setIfInBounds_toArray, List.set_cons_zero, List.set_cons_succ, i64_w, i32_w]
    rfl
  refine take_ (i := 3) (N := some 28) (v := ?_) (a' := ?_) #[true, true, true, true, true, false, false, false, true, false, true, false, false, false, true, false, true, false, false, false, false, false, false] rfl rfl (by kernel_rfl) (fun _ _ _ h => h) (Or.inl ⟨by rfl, ?_⟩) hHeld ?_ ?_
  rotate_left
  · intro w' s0
    go_simp
    with_reducible rfl
  rotate_left
  · simp only [Act.put, List.setIfInBounds_toArray, List.set_cons_zero, List.set_cons_succ, i64_w, i32_w]
    rfl
  refine take_ (i := 5) (N := some 30) (v := ?_) (a' := ?_) #[true, true, true, true, true, true, false, false, true, false, true, false, false, false, true, false, true, false, false, false, false, false, false] rfl rfl (by kernel_rfl) (fun _ _ _ h => h) (Or.inl ⟨by rfl, ?_⟩) hHeld ?_ ?_
  rotate_left
  · intro w' s0
    go_simp
    with_reducible rfl
  rotate_left
  · simp only [Act.put, List.setIfInBounds_toArray, List.set_cons_zero, List.set_cons_succ, i64_w, i32_w]
    rfl
  refine take_ (i := 9) (N := some 34) (v := ?_) (a' := ?_) #[true, true, true, true, true, true, false, false, true, true, true, false, false, false, true, false, true, false, false, false, false, false, false] rfl rfl (by kernel_rfl) (fun _ _ _ h => h) (Or.inl ⟨by rfl, ?_⟩) hHeld ?_ ?_
  rotate_left
  · intro w' s0
    go_simp
    with_reducible rfl
  rotate_left
  · simp only [Act.put, List.setIfInBounds_toArray, List.set_cons_zero, List.set_cons_succ, i64_w, i32_w]
    rfl
  refine take_ (i := 11) (N := some 36) (v := ?_) (a' := ?_) #[true, true, true, true, true, true, false, false, true, true, true, true, false, false, true, false, true, false, false, false, false, false, false] rfl rfl (by kernel_rfl) (fun _ _ _ h => h) (Or.inl ⟨by rfl, ?_⟩) hHeld ?_ ?_
  rotate_left
  · intro w' s0
    go_simp
    with_reducible rfl
  rotate_left
  · simp only [Act.put, List.setIfInBounds_toArray, List.set_cons_zero, List.set_cons_succ, i64_w, i32_w]
    rfl
  refine take_ (i := 15) (N := some 40) (v := ?_) (a' := ?_) #[true, true, true, true, true, true, false, false, true, true, true, true, false, false, true, true, true, false, false, false, false, false, false] rfl rfl (by kernel_rfl) (fun _ _ _ h => h) (Or.inl ⟨by rfl, ?_⟩) hHeld ?_ ?_
  rotate_left
  · intro w' s0
    go_simp
    with_reducible rfl
  rotate_left
  · simp only [Act.put, List.setIfInBounds_toArray, List.set_cons_zero, List.set_cons_succ, i64_w, i32_w]
    rfl
  refine take_ (i := 17) (N := some 42) (v := ?_) (a' := ?_) #[true, true, true, true, true, true, false, false, true, true, true, true, false, false, true, true, true, true, false, false, false, false, false] rfl rfl (by kernel_rfl) (fun _ _ _ h => h) (Or.inl ⟨by rfl, ?_⟩) hHeld ?_ ?_
  rotate_left
  · intro w' s0
    go_simp
    with_reducible rfl
  rotate_left
  · simp only [Act.put, List.setIfInBounds_toArray, List.set_cons_zero, List.set_cons_succ, i64_w, i32_w]
    rfl
  refine join_ (σ := Nat × (Option Addr × Nat) × Nat × (Option Addr × Nat) × Nat × (Option Addr × Nat) × Nat) 1 #[true, true, true, true, true, true, true, true, true, true, true, true, true, true, true, true, true, true, true, true, true, true, false] (fun s_ => [(31, .slice (some ⟨s_.1, 0, none⟩) 2 2), (32, .slice (s_.2.1).1 ks_.length (s_.2.1).2), (37, .slice (some ⟨s_.2.2.1, 0, none⟩) 2 2), (38, .slice (s_.2.2.2.1).1 vs_.length (s_.2.2.2.1).2), (43, .slice (some ⟨s_.2.2.2.2.1, 0, none⟩) 2 2), (44, .slice (s_.2.2.2.2.2.1).1 cs_.length (s_.2.2.2.2.2.1).2), (8, .pointer (some ⟨s_.2.2.2.2.2.2, 0, none⟩)), (45, .agg #[.bool lf1, .slice (s_.2.1).1 ks_.length (s_.2.1).2, .slice (s_.2.2.2.1).1 vs_.length (s_.2.2.2.1).2, .slice (s_.2.2.2.2.2.1).1 cs_.length (s_.2.2.2.2.2.1).2])]) (fun s_ w' => P5 w g1 g2 g4 a_ b_ w' ∧ (RS w w' (.slice (s_.2.1).1 ks_.length (s_.2.1).2) ks_) ∧ (RS w w' (.slice (s_.2.2.2.1).1 vs_.length (s_.2.2.2.1).2) vs_) ∧ (RI w w' (.slice (s_.2.2.2.2.2.1).1 cs_.length (s_.2.2.2.2.2.1).2) cs_) ∧ (Bk w' s_.2.2.2.2.2.2 Z4) ∧ (g1 ≠ s_.2.2.2.2.2.2) ∧ (g2 ≠ s_.2.2.2.2.2.2) ∧ (g4 ≠ s_.2.2.2.2.2.2) ∧ (w.heap.size ≤ s_.2.2.2.2.2.2)) ?_ ?_
  rotate_left
  · intro hJ6_7_12_13_18_19_21
    refine join_ (σ := Nat × (Option Addr × Nat) × Nat × (Option Addr × Nat) × Nat × (Option Addr × Nat)) 2 #[true, true, true, true, true, true, true, true, true, true, true, true, true, true, true, true, true, true, true, true, true, false, false] (fun s_ => [(31, .slice (some ⟨s_.1, 0, none⟩) 2 2), (32, .slice (s_.2.1).1 ks_.length (s_.2.1).2), (37, .slice (some ⟨s_.2.2.1, 0, none⟩) 2 2), (38, .slice (s_.2.2.2.1).1 vs_.length (s_.2.2.2.1).2), (43, .slice (some ⟨s_.2.2.2.2.1, 0, none⟩) 2 2), (44, .slice (s_.2.2.2.2.2).1 cs_.length (s_.2.2.2.2.2).2), (45, .agg #[.bool lf1, .slice (s_.2.1).1 ks_.length (s_.2.1).2, .slice (s_.2.2.2.1).1 vs_.length (s_.2.2.2.1).2, .slice (s_.2.2.2.2.2).1 cs_.length (s_.2.2.2.2.2).2])]) (fun s_ w' => P5 w g1 g2 g4 a_ b_ w' ∧ (RS w w' (.slice (s_.2.1).1 ks_.length (s_.2.1).2) ks_) ∧ (RS w w' (.slice (s_.2.2.2.1).1 vs_.length (s_.2.2.2.1).2) vs_) ∧ (RI w w' (.slice (s_.2.2.2.2.2).1 cs_.length (s_.2.2.2.2.2).2) cs_)) ?_ ?_
    rotate_left
    · intro hJ6_7_12_13_18_19
      refine join_ (σ := Nat × (Option Addr × Nat) × Nat × (Option Addr × Nat) × Nat × Nat) 3 #[true, true, true, true, true, true, true, true, true, true, true, true, true, true, true, true, true, true, true, false, false, true, false] (fun s_ => [(31, .slice (some ⟨s_.1, 0, none⟩) 2 2), (32, .slice (s_.2.1).1 ks_.length (s_.2.1).2), (37, .slice (some ⟨s_.2.2.1, 0, none⟩) 2 2), (38, .slice (s_.2.2.2.1).1 vs_.length (s_.2.2.2.1).2), (43, .slice (some ⟨s_.2.2.2.2.1, 0, none⟩) 2 2), (8, .pointer (some ⟨s_.2.2.2.2.2, 0, none⟩))]) (fun s_ w' => P5 w g1 g2 g4 a_ b_ w' ∧ (RS w w' (.slice (s_.2.1).1 ks_.length (s_.2.1).2) ks_) ∧ (RS w w' (.slice (s_.2.2.2.1).1 vs_.length (s_.2.2.2.1).2) vs_) ∧ (CI w' s_.2.2.2.2.1 [Cs, Ds]) ∧ (Bk w' s_.2.2.2.2.2 Z4) ∧ (g1 ≠ s_.2.2.2.2.2) ∧ (g2 ≠ s_.2.2.2.2.2) ∧ (g4 ≠ s_.2.2.2.2.2) ∧ (w.heap.size ≤ s_.2.2.2.2.2)) ?_ ?_
      rotate_left
      · intro hJ6_7_12_13_18_21
        refine join_ (σ := Nat × (Option Addr × Nat) × Nat × (Option Addr × Nat) × Nat) 4 #[true, true, true, true, true, true, true, true, true, true, true, true, true, true, true, true, true, true, true, false, false, false, false] (fun s_ => [(31, .slice (some ⟨s_.1, 0, none⟩) 2 2), (32, .slice (s_.2.1).1 ks_.length (s_.2.1).2), (37, .slice (some ⟨s_.2.2.1, 0, none⟩) 2 2), (38, .slice (s_.2.2.2.1).1 vs_.length (s_.2.2.2.1).2), (43, .slice (some ⟨s_.2.2.2.2, 0, none⟩) 2 2)]) (fun s_ w' => P5 w g1 g2 g4 a_ b_ w' ∧ (RS w w' (.slice (s_.2.1).1 ks_.length (s_.2.1).2) ks_) ∧ (RS w w' (.slice (s_.2.2.2.1).1 vs_.length (s_.2.2.2.1).2) vs_) ∧ (CI w' s_.2.2.2.2 [Cs, Ds])) ?_ ?_
        rotate_left
        · intro hJ6_7_12_13_18
          refine join_ (σ := Nat × (Option Addr × Nat) × Nat × (Option Addr × Nat) × Nat) 4 #[true, true, true, true, true, true, true, true, true, true, true, true, true, true, true, true, true, true, false, false, false, true, false] (fun s_ => [(31, .slice (some ⟨s_.1, 0, none⟩) 2 2), (32, .slice (s_.2.1).1 ks_.length (s_.2.1).2), (37, .slice (some ⟨s_.2.2.1, 0, none⟩) 2 2), (38, .slice (s_.2.2.2.1).1 vs_.length (s_.2.2.2.1).2), (8, .pointer (some ⟨s_.2.2.2.2, 0, none⟩))]) (fun s_ w' => P5 w g1 g2 g4 a_ b_ w' ∧ (RS w w' (.slice (s_.2.1).1 ks_.length (s_.2.1).2) ks_) ∧ (RS w w' (.slice (s_.2.2.2.1).1 vs_.length (s_.2.2.2.1).2) vs_) ∧ (Bk w' s_.2.2.2.2 Z4) ∧ (g1 ≠ s_.2.2.2.2) ∧ (g2 ≠ s_.2.2.2.2) ∧ (g4 ≠ s_.2.2.2.2) ∧ (w.heap.size ≤ s_.2.2.2.2)) ?_ ?_
          rotate_left
          · intro hJ6_7_12_13_21
            refine join_ (σ := Nat × (Option Addr × Nat) × Nat × Nat × Nat) 4 #[true, true, true, true, true, true, true, true, true, true, true, true, true, false, true, true, true, true, true, false, false, true, false] (fun s_ => [(31, .slice (some ⟨s_.1, 0, none⟩) 2 2), (32, .slice (s_.2.1).1 ks_.length (s_.2.1).2), (37, .slice (some ⟨s_.2.2.1, 0, none⟩) 2 2), (43, .slice (some ⟨s_.2.2.2.1, 0, none⟩) 2 2), (8, .pointer (some ⟨s_.2.2.2.2, 0, none⟩))]) (fun s_ w' => P5 w g1 g2 g4 a_ b_ w' ∧ (RS w w' (.slice (s_.2.1).1 ks_.length (s_.2.1).2) ks_) ∧ (CS w' s_.2.2.1 [Vs, Us]) ∧ (CI w' s_.2.2.2.1 [Cs, Ds]) ∧ (Bk w' s_.2.2.2.2 Z4) ∧ (g1 ≠ s_.2.2.2.2) ∧ (g2 ≠ s_.2.2.2.2) ∧ (g4 ≠ s_.2.2.2.2) ∧ (w.heap.size ≤ s_.2.2.2.2)) ?_ ?_
            rotate_left
            · intro hJ6_7_12_18_21
              refine join_ (σ := Nat × (Option Addr × Nat) × Nat × (Option Addr × Nat)) 5 #[true, true, true, true, true, true, true, true, true, true, true, true, true, true, true, true, true, true, false, false, false, false, false] (fun s_ => [(31, .slice (some ⟨s_.1, 0, none⟩) 2 2), (32, .slice (s_.2.1).1 ks_.length (s_.2.1).2), (37, .slice (some ⟨s_.2.2.1, 0, none⟩) 2 2), (38, .slice (s_.2.2.2).1 vs_.length (s_.2.2.2).2)]) (fun s_ w' => P5 w g1 g2 g4 a_ b_ w' ∧ (RS w w' (.slice (s_.2.1).1 ks_.length (s_.2.1).2) ks_) ∧ (RS w w' (.slice (s_.2.2.2).1 vs_.length (s_.2.2.2).2) vs_)) ?_ ?_
              rotate_left
              · intro hJ6_7_12_13
                refine join_ (σ := Nat × (Option Addr × Nat) × Nat × Nat) 5 #[true, true, true, true, true, true, true, true, true, true, true, true, true, false, true, true, true, true, true, false, false, false, false] (fun s_ => [(31, .slice (some ⟨s_.1, 0, none⟩) 2 2), (32, .slice (s_.2.1).1 ks_.length (s_.2.1).2), (37, .slice (some ⟨s_.2.2.1, 0, none⟩) 2 2), (43, .slice (some ⟨s_.2.2.2, 0, none⟩) 2 2)]) (fun s_ w' => P5 w g1 g2 g4 a_ b_ w' ∧ (RS w w' (.slice (s_.2.1).1 ks_.length (s_.2.1).2) ks_) ∧ (CS w' s_.2.2.1 [Vs, Us]) ∧ (CI w' s_.2.2.2 [Cs, Ds])) ?_ ?_
                rotate_left
                · intro hJ6_7_12_18
                  refine join_ (σ := Nat × (Option Addr × Nat) × Nat × Nat) 5 #[true, true, true, true, true, true, true, true, true, true, true, true, true, false, true, true, true, true, false, false, false, true, false] (fun s_ => [(31, .slice (some ⟨s_.1, 0, none⟩) 2 2), (32, .slice (s_.2.1).1 ks_.length (s_.2.1).2), (37, .slice (some ⟨s_.2.2.1, 0, none⟩) 2 2), (8, .pointer (some ⟨s_.2.2.2, 0, none⟩))]) (fun s_ w' => P5 w g1 g2 g4 a_ b_ w' ∧ (RS w w' (.slice (s_.2.1).1 ks_.length (s_.2.1).2) ks_) ∧ (CS w' s_.2.2.1 [Vs, Us]) ∧ (Bk w' s_.2.2.2 Z4) ∧ (g1 ≠ s_.2.2.2) ∧ (g2 ≠ s_.2.2.2) ∧ (g4 ≠ s_.2.2.2) ∧ (w.heap.size ≤ s_.2.2.2)) ?_ ?_
                  rotate_left
                  · intro hJ6_7_12_21
                    refine join_ (σ := Nat × (Option Addr × Nat) × Nat × Nat) 5 #[true, true, true, true, true, true, true, true, true, true, true, true, false, false, true, true, true, true, true, false, false, true, false] (fun s_ => [(31, .slice (some ⟨s_.1, 0, none⟩) 2 2), (32, .slice (s_.2.1).1 ks_.length (s_.2.1).2), (43, .slice (some ⟨s_.2.2.1, 0, none⟩) 2 2), (8, .pointer (some ⟨s_.2.2.2, 0, none⟩))]) (fun s_ w' => P5 w g1 g2 g4 a_ b_ w' ∧ (RS w w' (.slice (s_.2.1).1 ks_.length (s_.2.1).2) ks_) ∧ (CI w' s_.2.2.1 [Cs, Ds]) ∧ (Bk w' s_.2.2.2 Z4) ∧ (g1 ≠ s_.2.2.2) ∧ (g2 ≠ s_.2.2.2) ∧ (g4 ≠ s_.2.2.2) ∧ (w.heap.size ≤ s_.2.2.2)) ?_ ?_
                    rotate_left
                    · intro hJ6_7_18_21
                      refine join_ (σ := Nat × Nat × Nat × Nat) 5 #[true, true, true, true, true, true, true, false, true, true, true, true, true, false, true, true, true, true, true, false, false, true, false] (fun s_ => [(31, .slice (some ⟨s_.1, 0, none⟩) 2 2), (37, .slice (some ⟨s_.2.1, 0, none⟩) 2 2), (43, .slice (some ⟨s_.2.2.1, 0, none⟩) 2 2), (8, .pointer (some ⟨s_.2.2.2, 0, none⟩))]) (fun s_ w' => P5 w g1 g2 g4 a_ b_ w' ∧ (CS w' s_.1 [Ks, Ls]) ∧ (CS w' s_.2.1 [Vs, Us]) ∧ (CI w' s_.2.2.1 [Cs, Ds]) ∧ (Bk w' s_.2.2.2 Z4) ∧ (g1 ≠ s_.2.2.2) ∧ (g2 ≠ s_.2.2.2) ∧ (g4 ≠ s_.2.2.2) ∧ (w.heap.size ≤ s_.2.2.2)) ?_ ?_
                      rotate_left
                      · intro hJ6_12_18_21
                        refine join_ (σ := Nat × (Option Addr × Nat) × Nat) 6 #[true, true, true, true, true, true, true, true, true, true, true, true, true, false, true, true, true, true, false, false, false, false, false] (fun s_ => [(31, .slice (some ⟨s_.1, 0, none⟩) 2 2), (32, .slice (s_.2.1).1 ks_.length (s_.2.1).2), (37, .slice (some ⟨s_.2.2, 0, none⟩) 2 2)]) (fun s_ w' => P5 w g1 g2 g4 a_ b_ w' ∧ (RS w w' (.slice (s_.2.1).1 ks_.length (s_.2.1).2) ks_) ∧ (CS w' s_.2.2 [Vs, Us])) ?_ ?_
                        rotate_left
                        · intro hJ6_7_12
                          refine join_ (σ := Nat × (Option Addr × Nat) × Nat) 6 #[true, true, true, true, true, true, true, true, true, true, true, true, false, false, true, true, true, true, true, false, false, false, false] (fun s_ => [(31, .slice (some ⟨s_.1, 0, none⟩) 2 2), (32, .slice (s_.2.1).1 ks_.length (s_.2.1).2), (43, .slice (some ⟨s_.2.2, 0, none⟩) 2 2)]) (fun s_ w' => P5 w g1 g2 g4 a_ b_ w' ∧ (RS w w' (.slice (s_.2.1).1 ks_.length (s_.2.1).2) ks_) ∧ (CI w' s_.2.2 [Cs, Ds])) ?_ ?_
                          rotate_left
                          · intro hJ6_7_18
                            refine join_ (σ := Nat × (Option Addr × Nat) × Nat) 6 #[true, true, true, true, true, true, true, true, true, true, true, true, false, false, true, true, true, true, false, false, false, true, false] (fun s_ => [(31, .slice (some ⟨s_.1, 0, none⟩) 2 2), (32, .slice (s_.2.1).1 ks_.length (s_.2.1).2), (8, .pointer (some ⟨s_.2.2, 0, none⟩))]) (fun s_ w' => P5 w g1 g2 g4 a_ b_ w' ∧ (RS w w' (.slice (s_.2.1).1 ks_.length (s_.2.1).2) ks_) ∧ (Bk w' s_.2.2 Z4) ∧ (g1 ≠ s_.2.2) ∧ (g2 ≠ s_.2.2) ∧ (g4 ≠ s_.2.2) ∧ (w.heap.size ≤ s_.2.2)) ?_ ?_
                            rotate_left
                            · intro hJ6_7_21
                              refine join_ (σ := Nat × Nat × Nat) 6 #[true, true, true, true, true, true, true, false, true, true, true, true, true, false, true, true, true, true, true, false, false, false, false] (fun s_ => [(31, .slice (some ⟨s_.1, 0, none⟩) 2 2), (37, .slice (some ⟨s_.2.1, 0, none⟩) 2 2), (43, .slice (some ⟨s_.2.2, 0, none⟩) 2 2)]) (fun s_ w' => P5 w g1 g2 g4 a_ b_ w' ∧ (CS w' s_.1 [Ks, Ls]) ∧ (CS w' s_.2.1 [Vs, Us]) ∧ (CI w' s_.2.2 [Cs, Ds])) ?_ ?_
                              rotate_left
                              · intro hJ6_12_18
                                refine join_ (σ := Nat × Nat × Nat) 6 #[true, true, true, true, true, true, true, false, true, true, true, true, true, false, true, true, true, true, false, false, false, true, false] (fun s_ => [(31, .slice (some ⟨s_.1, 0, none⟩) 2 2), (37, .slice (some ⟨s_.2.1, 0, none⟩) 2 2), (8, .pointer (some ⟨s_.2.2, 0, none⟩))]) (fun s_ w' => P5 w g1 g2 g4 a_ b_ w' ∧ (CS w' s_.1 [Ks, Ls]) ∧ (CS w' s_.2.1 [Vs, Us]) ∧ (Bk w' s_.2.2 Z4) ∧ (g1 ≠ s_.2.2) ∧ (g2 ≠ s_.2.2) ∧ (g4 ≠ s_.2.2) ∧ (w.heap.size ≤ s_.2.2)) ?_ ?_
                                rotate_left
                                · intro hJ6_12_21
                                  refine join_ (σ := Nat × Nat × Nat) 6 #[true, true, true, true, true, true, true, false, true, true, true, true, false, false, true, true, true, true, true, false, false, true, false] (fun s_ => [(31, .slice (some ⟨s_.1, 0, none⟩) 2 2), (43, .slice (some ⟨s_.2.1, 0, none⟩) 2 2), (8, .pointer (some ⟨s_.2.2, 0, none⟩))]) (fun s_ w' => P5 w g1 g2 g4 a_ b_ w' ∧ (CS w' s_.1 [Ks, Ls]) ∧ (CI w' s_.2.1 [Cs, Ds]) ∧ (Bk w' s_.2.2 Z4) ∧ (g1 ≠ s_.2.2) ∧ (g2 ≠ s_.2.2) ∧ (g4 ≠ s_.2.2) ∧ (w.heap.size ≤ s_.2.2)) ?_ ?_
                                  rotate_left
                                  · intro hJ6_18_21
                                    refine join_ (σ := Nat × Nat × Nat) 6 #[true, true, true, true, true, true, false, false, true, true, true, true, true, false, true, true, true, true, true, false, false, true, false] (fun s_ => [(37, .slice (some ⟨s_.1, 0, none⟩) 2 2), (43, .slice (some ⟨s_.2.1, 0, none⟩) 2 2), (8, .pointer (some ⟨s_.2.2, 0, none⟩))]) (fun s_ w' => P5 w g1 g2 g4 a_ b_ w' ∧ (CS w' s_.1 [Vs, Us]) ∧ (CI w' s_.2.1 [Cs, Ds]) ∧ (Bk w' s_.2.2 Z4) ∧ (g1 ≠ s_.2.2) ∧ (g2 ≠ s_.2.2) ∧ (g4 ≠ s_.2.2) ∧ (w.heap.size ≤ s_.2.2)) ?_ ?_
                                    rotate_left
                                    · intro hJ12_18_21
                                      refine join_ (σ := Nat × (Option Addr × Nat)) 7 #[true, true, true, true, true, true, true, true, true, true, true, true, false, false, true, true, true, true, false, false, false, false, false] (fun s_ => [(31, .slice (some ⟨s_.1, 0, none⟩) 2 2), (32, .slice (s_.2).1 ks_.length (s_.2).2)]) (fun s_ w' => P5 w g1 g2 g4 a_ b_ w' ∧ (RS w w' (.slice (s_.2).1 ks_.length (s_.2).2) ks_)) ?_ ?_
                                      rotate_left
                                      · intro hJ6_7
                                        refine join_ (σ := Nat × Nat) 7 #[true, true, true, true, true, true, true, false, true, true, true, true, true, false, true, true, true, true, false, false, false, false, false] (fun s_ => [(31, .slice (some ⟨s_.1, 0, none⟩) 2 2), (37, .slice (some ⟨s_.2, 0, none⟩) 2 2)]) (fun s_ w' => P5 w g1 g2 g4 a_ b_ w' ∧ (CS w' s_.1 [Ks, Ls]) ∧ (CS w' s_.2 [Vs, Us])) ?_ ?_
                                        rotate_left
                                        · intro hJ6_12
                                          refine join_ (σ := Nat × Nat) 7 #[true, true, true, true, true, true, true, false, true, true, true, true, false, false, true, true, true, true, true, false, false, false, false] (fun s_ => [(31, .slice (some ⟨s_.1, 0, none⟩) 2 2), (43, .slice (some ⟨s_.2, 0, none⟩) 2 2)]) (fun s_ w' => P5 w g1 g2 g4 a_ b_ w' ∧ (CS w' s_.1 [Ks, Ls]) ∧ (CI w' s_.2 [Cs, Ds])) ?_ ?_
                                          rotate_left
                                          · intro hJ6_18
                                            refine join_ (σ := Nat × Nat) 7 #[true, true, true, true, true, true, true, false, true, true, true, true, false, false, true, true, true, true, false, false, false, true, false] (fun s_ => [(31, .slice (some ⟨s_.1, 0, none⟩) 2 2), (8, .pointer (some ⟨s_.2, 0, none⟩))]) (fun s_ w' => P5 w g1 g2 g4 a_ b_ w' ∧ (CS w' s_.1 [Ks, Ls]) ∧ (Bk w' s_.2 Z4) ∧ (g1 ≠ s_.2) ∧ (g2 ≠ s_.2) ∧ (g4 ≠ s_.2) ∧ (w.heap.size ≤ s_.2)) ?_ ?_
                                            rotate_left
                                            · intro hJ6_21
                                              refine join_ (σ := Nat × Nat) 7 #[true, true, true, true, true, true, false, false, true, true, true, true, true, false, true, true, true, true, true, false, false, false, false] (fun s_ => [(37, .slice (some ⟨s_.1, 0, none⟩) 2 2), (43, .slice (some ⟨s_.2, 0, none⟩) 2 2)]) (fun s_ w' => P5 w g1 g2 g4 a_ b_ w' ∧ (CS w' s_.1 [Vs, Us]) ∧ (CI w' s_.2 [Cs, Ds])) ?_ ?_
                                              rotate_left
                                              · intro hJ12_18
                                                refine join_ (σ := Nat × Nat) 7 #[true, true, true, true, true, true, false, false, true, true, true, true, true, false, true, true, true, true, false, false, false, true, false] (fun s_ => [(37, .slice (some ⟨s_.1, 0, none⟩) 2 2), (8, .pointer (some ⟨s_.2, 0, none⟩))]) (fun s_ w' => P5 w g1 g2 g4 a_ b_ w' ∧ (CS w' s_.1 [Vs, Us]) ∧ (Bk w' s_.2 Z4) ∧ (g1 ≠ s_.2) ∧ (g2 ≠ s_.2) ∧ (g4 ≠ s_.2) ∧ (w.heap.size ≤ s_.2)) ?_ ?_
                                                rotate_left
                                                · intro hJ12_21
                                                  refine join_ (σ := Nat × Nat) 7 #[true, true, true, true, true, true, false, false, true, true, true, true, false, false, true, true, true, true, true, false, false, true, false] (fun s_ => [(43, .slice (some ⟨s_.1, 0, none⟩) 2 2), (8, .pointer (some ⟨s_.2, 0, none⟩))]) (fun s_ w' => P5 w g1 g2 g4 a_ b_ w' ∧ (CI w' s_.1 [Cs, Ds]) ∧ (Bk w' s_.2 Z4) ∧ (g1 ≠ s_.2) ∧ (g2 ≠ s_.2) ∧ (g4 ≠ s_.2) ∧ (w.heap.size ≤ s_.2)) ?_ ?_
                                                  rotate_left
                                                  · intro hJ18_21
                                                    refine join_ (σ := Nat) 8 #[true, true, true, true, true, true, true, false, true, true, true, true, false, false, true, true, true, true, false, false, false, false, false] (fun s_ => [(31, .slice (some ⟨s_, 0, none⟩) 2 2)]) (fun s_ w' => P5 w g1 g2 g4 a_ b_ w' ∧ (CS w' s_ [Ks, Ls])) ?_ ?_
                                                    rotate_left
                                                    · intro hJ6
                                                      refine join_ (σ := Nat) 8 #[true, true, true, true, true, true, false, false, true, true, true, true, true, false, true, true, true, true, false, false, false, false, false] (fun s_ => [(37, .slice (some ⟨s_, 0, none⟩) 2 2)]) (fun s_ w' => P5 w g1 g2 g4 a_ b_ w' ∧ (CS w' s_ [Vs, Us])) ?_ ?_
                                                      rotate_left
                                                      · intro hJ12
                                                        refine join_ (σ := Nat) 8 #[true, true, true, true, true, true, false, false, true, true, true, true, false, false, true, true, true, true, true, false, false, false, false] (fun s_ => [(43, .slice (some ⟨s_, 0, none⟩) 2 2)]) (fun s_ w' => P5 w g1 g2 g4 a_ b_ w' ∧ (CI w' s_ [Cs, Ds])) ?_ ?_
                                                        rotate_left
                                                        · intro hJ18
                                                          refine join_ (σ := Nat) 8 #[true, true, true, true, true, true, false, false, true, true, true, true, false, false, true, true, true, true, false, false, false, true, false] (fun s_ => [(8, .pointer (some ⟨s_, 0, none⟩))]) (fun s_ w' => P5 w g1 g2 g4 a_ b_ w' ∧ (Bk w' s_ Z4) ∧ (g1 ≠ s_) ∧ (g2 ≠ s_) ∧ (g4 ≠ s_) ∧ (w.heap.size ≤ s_)) ?_ ?_
                                                          rotate_left
                                                          · intro hJ21
                                                            refine four_ (i := 6) (j := 12) (k := 18) (m := 21) (Ni := some 31) (Nj := some 37) (Nk := some 43) (Nm := some 8) #[true, true, true, true, true, true, true, false, true, true, true, true, false, false, true, true, true, true, false, false, false, false, false] #[true, true, true, true, true, true, false, false, true, true, true, true, true, false, true, true, true, true, false, false, false, false, false] #[true, true, true, true, true, true, false, false, true, true, true, true, false, false, true, true, true, true, true, false, false, false, false] #[true, true, true, true, true, true, false, false, true, true, true, true, false, false, true, true, true, true, false, false, false, true, false] rfl rfl rfl rfl rfl rfl rfl rfl (by kernel_rfl) (by decide) (by decide) (by decide) (by decide) (fun K hK => ?_) (fun K hK => ?_) (fun K hK => ?_) (fun K hK => ?_)
                                                            · skip
                                                              refine value_ (w1 := ?_) (v := ?_) (by rfl) rfl ?_ ?_
                                                              rotate_left 2
                                                              · go_simp
                                                                constructor
                                                                · rfl
                                                                · rfl
                                                              refine hK.out _ _ (held7 ha_ hb_ (blk_alloc B1.out _) (blk_alloc B2.out _)) (fun hHeld => ?_)
                                                              clear hK K
                                                              refine norm_ (a' := ?_) ?_ ?_
                                                              rotate_left
                                                              · show Act.put _ (some 31) _ = _
                                                                simp only [Act.put, List.setIfInBounds_toArray, List.set_cons_zero, List.set_cons_succ, i64_w, i32_w]
                                                                rfl
                                                              exact norm_ (by first | (simp only [putAll, Act.put, List.setIfInBounds_toArray, List.set_cons_zero, List.set_cons_succ]; done) | (simp only [putAll, Act.put, List.setIfInBounds_toArray, List.set_cons_zero, List.set_cons_succ]; rfl)) (hJ6 (p3.heap.size) _ ⟨⟨below_alloc HB.out _, blk_alloc B1.out _, blk_alloc B2.out _, blk_alloc B4.out _⟩, C_two_ss p3 HC1.out (Kd.C_below HR1.out HB.out) HC4.out (Kd.C_below HR4.out HB.out)⟩)
                                                            · skip
                                                              refine value_ (w1 := ?_) (v := ?_) (by rfl) rfl ?_ ?_
                                                              rotate_left 2
                                                              · go_simp
                                                                constructor
                                                                · rfl
                                                                · rfl
                                                              refine hK.out _ _ (held7 ha_ hb_ (blk_alloc B1.out _) (blk_alloc B2.out _)) (fun hHeld => ?_)
                                                              clear hK K
                                                              refine norm_ (a' := ?_) ?_ ?_
                                                              rotate_left
                                                              · show Act.put _ (some 37) _ = _
                                                                simp only [Act.put, List.setIfInBounds_toArray, List.set_cons_zero, List.set_cons_succ, i64_w, i32_w]
                                                                rfl
                                                              exact norm_ (by first | (simp only [putAll, Act.put, List.setIfInBounds_toArray, List.set_cons_zero, List.set_cons_succ]; done) | (simp only [putAll, Act.put, List.setIfInBounds_toArray, List.set_cons_zero, List.set_cons_succ]; rfl)) (hJ12 (p3.heap.size) _ ⟨⟨below_alloc HB.out _, blk_alloc B1.out _, blk_alloc B2.out _, blk_alloc B4.out _⟩, C_two_ss p3 HC2.out (Kd.C_below HR2.out HB.out) HC5.out (Kd.C_below HR5.out HB.out)⟩)
                                                            · skip
                                                              refine value_ (w1 := ?_) (v := ?_) (by rfl) rfl ?_ ?_
                                                              rotate_left 2
                                                              · go_simp
                                                                constructor
                                                                · rfl
                                                                · rfl
                                                              refine hK.out _ _ (held7 ha_ hb_ (blk_alloc B1.out _) (blk_alloc B2.out _)) (fun hHeld => ?_)
                                                              clear hK K
                                                              refine norm_ (a' := ?_) ?_ ?_
                                                              rotate_left
                                                              · show Act.put _ (some 43) _ = _
                                                                simp only [Act.put, List.setIfInBounds_toArray, List.set_cons_zero, List.set_cons_succ, i64_w, i32_w]
                                                                rfl
                                                              exact norm_ (by first | (simp only [putAll, Act.put, List.setIfInBounds_toArray, List.set_cons_zero, List.set_cons_succ]; done) | (simp only [putAll, Act.put, List.setIfInBounds_toArray, List.set_cons_zero, List.set_cons_succ]; rfl)) (hJ18 (p3.heap.size) _ ⟨⟨below_alloc HB.out _, blk_alloc B1.out _, blk_alloc B2.out _, blk_alloc B4.out _⟩, C_two_si p3 HC3.out (Kd.C_below HR3.out HB.out) HC6.out (Kd.C_below HR6.out HB.out)⟩)
                                                            · skip
                                                              refine value_ (w1 := ?_) (v := ?_) (by rfl) rfl ?_ ?_
                                                              rotate_left 2
                                                              · go_simp
                                                                constructor
                                                                · rfl
                                                                · rfl
                                                              refine hK.out _ _ (held7 ha_ hb_ (blk_alloc B1.out _) (blk_alloc B2.out _)) (fun hHeld => ?_)
                                                              clear hK K
                                                              refine norm_ (a' := ?_) ?_ ?_
                                                              rotate_left
                                                              · show Act.put _ (some 8) _ = _
                                                                simp only [Act.put, List.setIfInBounds_toArray, List.set_cons_zero, List.set_cons_succ, i64_w, i32_w]
                                                                rfl
                                                              exact norm_ (by first | (simp only [putAll, Act.put, List.setIfInBounds_toArray, List.set_cons_zero, List.set_cons_succ]; done) | (simp only [putAll, Act.put, List.setIfInBounds_toArray, List.set_cons_zero, List.set_cons_succ]; rfl)) (hJ21 (p3.heap.size) _ ⟨⟨below_alloc HB.out _, blk_alloc B1.out _, blk_alloc B2.out _, blk_alloc B4.out _⟩, blk_new p3 _, Nat.ne_of_lt (blk_lt B1.out), Nat.ne_of_lt (blk_lt B2.out), Nat.ne_of_lt (blk_lt B4.out), below_size HB.out⟩)
                                                          · skip
                                                            rintro g7 p3_21 ⟨⟨h0_, h1_, h2_, h3_⟩, h4_, h5_, h6_, h7_, h8_⟩
                                                            have HB : Aside0 (Below w.heap.size w p3_21) := ⟨h0_⟩
                                                            have B1 : Aside0 (Bk p3_21 g1 a_) := ⟨h1_⟩
                                                            have B2 : Aside0 (Bk p3_21 g2 b_) := ⟨h2_⟩
                                                            have B4 : Aside0 (Bk p3_21 g4 Z4) := ⟨h3_⟩
                                                            have B7 : Aside0 (Bk p3_21 g7 Z4) := ⟨h4_⟩
                                                            have NE1 : Aside0 (g1 ≠ g7) := ⟨h5_⟩
                                                            have NE2 : Aside0 (g2 ≠ g7) := ⟨h6_⟩
                                                            have NE4 : Aside0 (g4 ≠ g7) := ⟨h7_⟩
                                                            have G7 : Aside0 (w.heap.size ≤ g7) := ⟨h8_⟩
                                                            have hHeld := held7 ha_ hb_ (B1.out) (B2.out)
                                                            refine norm_ (a' := ?_) ?_ ?_
                                                            rotate_left
                                                            · simp only [putAll, Act.put, List.setIfInBounds_toArray, List.set_cons_zero, List.set_cons_succ]
                                                              rfl
                                                            refine three_ (i := 6) (j := 12) (k := 18) (Ni := some 31) (Nj := some 37) (Nk := some 43) #[true, true, true, true, true, true, true, false, true, true, true, true, false, false, true, true, true, true, false, false, false, true, false] #[true, true, true, true, true, true, false, false, true, true, true, true, true, false, true, true, true, true, false, false, false, true, false] #[true, true, true, true, true, true, false, false, true, true, true, true, false, false, true, true, true, true, true, false, false, true, false] rfl rfl rfl rfl rfl rfl (by kernel_rfl) (by decide) (by decide) (by decide) (fun K hK => ?_) (fun K hK => ?_) (fun K hK => ?_)
                                                            · skip
                                                              refine value_ (w1 := ?_) (v := ?_) (by rfl) rfl ?_ ?_
                                                              rotate_left 2
                                                              · go_simp
                                                                constructor
                                                                · rfl
                                                                · rfl
                                                              refine hK.out _ _ (held7 ha_ hb_ (blk_alloc B1.out _) (blk_alloc B2.out _)) (fun hHeld => ?_)
                                                              clear hK K
                                                              refine norm_ (a' := ?_) ?_ ?_
                                                              rotate_left
                                                              · show Act.put _ (some 31) _ = _
                                                                simp only [Act.put, List.setIfInBounds_toArray, List.set_cons_zero, List.set_cons_succ, i64_w, i32_w]
                                                                rfl
                                                              exact norm_ (by first | (simp only [putAll, Act.put, List.setIfInBounds_toArray, List.set_cons_zero, List.set_cons_succ]; done) | (simp only [putAll, Act.put, List.setIfInBounds_toArray, List.set_cons_zero, List.set_cons_succ]; rfl)) (hJ6_21 (p3_21.heap.size, g7) _ ⟨⟨below_alloc HB.out _, blk_alloc B1.out _, blk_alloc B2.out _, blk_alloc B4.out _⟩, C_two_ss p3_21 HC1.out (Kd.C_below HR1.out HB.out) HC4.out (Kd.C_below HR4.out HB.out), blk_alloc B7.out _, NE1.out, NE2.out, NE4.out, G7.out⟩)
                                                            · skip
                                                              refine value_ (w1 := ?_) (v := ?_) (by rfl) rfl ?_ ?_
                                                              rotate_left 2
                                                              · go_simp
                                                                constructor
                                                                · rfl
                                                                · rfl
                                                              refine hK.out _ _ (held7 ha_ hb_ (blk_alloc B1.out _) (blk_alloc B2.out _)) (fun hHeld => ?_)
                                                              clear hK K
                                                              refine norm_ (a' := ?_) ?_ ?_
                                                              rotate_left
                                                              · show Act.put _ (some 37) _ = _
                                                                simp only [Act.put, List.setIfInBounds_toArray, List.set_cons_zero, List.set_cons_succ, i64_w, i32_w]
                                                                rfl
                                                              exact norm_ (by first | (simp only [putAll, Act.put, List.setIfInBounds_toArray, List.set_cons_zero, List.set_cons_succ]; done) | (simp only [putAll, Act.put, List.setIfInBounds_toArray, List.set_cons_zero, List.set_cons_succ]; rfl)) (hJ12_21 (p3_21.heap.size, g7) _ ⟨⟨below_alloc HB.out _, blk_alloc B1.out _, blk_alloc B2.out _, blk_alloc B4.out _⟩, C_two_ss p3_21 HC2.out (Kd.C_below HR2.out HB.out) HC5.out (Kd.C_below HR5.out HB.out), blk_alloc B7.out _, NE1.out, NE2.out, NE4.out, G7.out⟩)
                                                            · skip
                                                              refine value_ (w1 := ?_) (v := ?_) (by rfl) rfl ?_ ?_
                                                              rotate_left 2
                                                              · go_simp
                                                                constructor
                                                                · rfl
                                                                · rfl
                                                              refine hK.out _ _ (held7 ha_ hb_ (blk_alloc B1.out _) (blk_alloc B2.out _)) (fun hHeld => ?_)
                                                              clear hK K
                                                              refine norm_ (a' := ?_) ?_ ?_
                                                              rotate_left
                                                              · show Act.put _ (some 43) _ = _
                                                                simp only [Act.put, List.setIfInBounds_toArray, List.set_cons_zero, List.set_cons_succ, i64_w, i32_w]
                                                                rfl
                                                              exact norm_ (by first | (simp only [putAll, Act.put, List.setIfInBounds_toArray, List.set_cons_zero, List.set_cons_succ]; done) | (simp only [putAll, Act.put, List.setIfInBounds_toArray, List.set_cons_zero, List.set_cons_succ]; rfl)) (hJ18_21 (p3_21.heap.size, g7) _ ⟨⟨below_alloc HB.out _, blk_alloc B1.out _, blk_alloc B2.out _, blk_alloc B4.out _⟩, C_two_si p3_21 HC3.out (Kd.C_below HR3.out HB.out) HC6.out (Kd.C_below HR6.out HB.out), blk_alloc B7.out _, NE1.out, NE2.out, NE4.out, G7.out⟩)
                                                        · skip
                                                          rintro gc p3_18 ⟨⟨h0_, h1_, h2_, h3_⟩, h4_⟩
                                                          have HB : Aside0 (Below w.heap.size w p3_18) := ⟨h0_⟩
                                                          have B1 : Aside0 (Bk p3_18 g1 a_) := ⟨h1_⟩
                                                          have B2 : Aside0 (Bk p3_18 g2 b_) := ⟨h2_⟩
                                                          have B4 : Aside0 (Bk p3_18 g4 Z4) := ⟨h3_⟩
                                                          have BC : Aside0 (CI p3_18 gc [Cs, Ds]) := ⟨h4_⟩
                                                          have hHeld := held7 ha_ hb_ (B1.out) (B2.out)
                                                          refine norm_ (a' := ?_) ?_ ?_
                                                          rotate_left
                                                          · simp only [putAll, Act.put, List.setIfInBounds_toArray, List.set_cons_zero, List.set_cons_succ]
                                                            rfl
                                                          refine three_ (i := 6) (j := 12) (k := 21) (Ni := some 31) (Nj := some 37) (Nk := some 8) #[true, true, true, true, true, true, true, false, true, true, true, true, false, false, true, true, true, true, true, false, false, false, false] #[true, true, true, true, true, true, false, false, true, true, true, true, true, false, true, true, true, true, true, false, false, false, false] #[true, true, true, true, true, true, false, false, true, true, true, true, false, false, true, true, true, true, true, false, false, true, false] rfl rfl rfl rfl rfl rfl (by kernel_rfl) (by decide) (by decide) (by decide) (fun K hK => ?_) (fun K hK => ?_) (fun K hK => ?_)
                                                          · skip
                                                            refine value_ (w1 := ?_) (v := ?_) (by rfl) rfl ?_ ?_
                                                            rotate_left 2
                                                            · go_simp
                                                              constructor
                                                              · rfl
                                                              · rfl
                                                            refine hK.out _ _ (held7 ha_ hb_ (blk_alloc B1.out _) (blk_alloc B2.out _)) (fun hHeld => ?_)
                                                            clear hK K
                                                            refine norm_ (a' := ?_) ?_ ?_
                                                            rotate_left
                                                            · show Act.put _ (some 31) _ = _
                                                              simp only [Act.put, List.setIfInBounds_toArray, List.set_cons_zero, List.set_cons_succ, i64_w, i32_w]
                                                              rfl
                                                            exact norm_ (by first | (simp only [putAll, Act.put, List.setIfInBounds_toArray, List.set_cons_zero, List.set_cons_succ]; done) | (simp only [putAll, Act.put, List.setIfInBounds_toArray, List.set_cons_zero, List.set_cons_succ]; rfl)) (hJ6_18 (p3_18.heap.size, gc) _ ⟨⟨below_alloc HB.out _, blk_alloc B1.out _, blk_alloc B2.out _, blk_alloc B4.out _⟩, C_two_ss p3_18 HC1.out (Kd.C_below HR1.out HB.out) HC4.out (Kd.C_below HR4.out HB.out), Kd.C_alloc BC.out _⟩)
                                                          · skip
                                                            refine value_ (w1 := ?_) (v := ?_) (by rfl) rfl ?_ ?_
                                                            rotate_left 2
                                                            · go_simp
                                                              constructor
                                                              · rfl
                                                              · rfl
                                                            refine hK.out _ _ (held7 ha_ hb_ (blk_alloc B1.out _) (blk_alloc B2.out _)) (fun hHeld => ?_)
                                                            clear hK K
                                                            refine norm_ (a' := ?_) ?_ ?_
                                                            rotate_left
                                                            · show Act.put _ (some 37) _ = _
                                                              simp only [Act.put, List.setIfInBounds_toArray, List.set_cons_zero, List.set_cons_succ, i64_w, i32_w]
                                                              rfl
                                                            exact norm_ (by first | (simp only [putAll, Act.put, List.setIfInBounds_toArray, List.set_cons_zero, List.set_cons_succ]; done) | (simp only [putAll, Act.put, List.setIfInBounds_toArray, List.set_cons_zero, List.set_cons_succ]; rfl)) (hJ12_18 (p3_18.heap.size, gc) _ ⟨⟨below_alloc HB.out _, blk_alloc B1.out _, blk_alloc B2.out _, blk_alloc B4.out _⟩, C_two_ss p3_18 HC2.out (Kd.C_below HR2.out HB.out) HC5.out (Kd.C_below HR5.out HB.out), Kd.C_alloc BC.out _⟩)
                                                          · skip
                                                            refine value_ (w1 := ?_) (v := ?_) (by rfl) rfl ?_ ?_
                                                            rotate_left 2
                                                            · go_simp
                                                              constructor
                                                              · rfl
                                                              · rfl
                                                            refine hK.out _ _ (held7 ha_ hb_ (blk_alloc B1.out _) (blk_alloc B2.out _)) (fun hHeld => ?_)
                                                            clear hK K
                                                            refine norm_ (a' := ?_) ?_ ?_
                                                            rotate_left
                                                            · show Act.put _ (some 8) _ = _
                                                              simp only [Act.put, List.setIfInBounds_toArray, List.set_cons_zero, List.set_cons_succ, i64_w, i32_w]
                                                              rfl
                                                            exact norm_ (by first | (simp only [putAll, Act.put, List.setIfInBounds_toArray, List.set_cons_zero, List.set_cons_succ]; done) | (simp only [putAll, Act.put, List.setIfInBounds_toArray, List.set_cons_zero, List.set_cons_succ]; rfl)) (hJ18_21 (gc, p3_18.heap.size) _ ⟨⟨below_alloc HB.out _, blk_alloc B1.out _, blk_alloc B2.out _, blk_alloc B4.out _⟩, Kd.C_alloc BC.out _, blk_new p3_18 _, Nat.ne_of_lt (blk_lt B1.out), Nat.ne_of_lt (blk_lt B2.out), Nat.ne_of_lt (blk_lt B4.out), below_size HB.out⟩)
                                                      · skip
                                                        rintro gb p3_12 ⟨⟨h0_, h1_, h2_, h3_⟩, h4_⟩
                                                        have HB : Aside0 (Below w.heap.size w p3_12) := ⟨h0_⟩
                                                        have B1 : Aside0 (Bk p3_12 g1 a_) := ⟨h1_⟩
                                                        have B2 : Aside0 (Bk p3_12 g2 b_) := ⟨h2_⟩
                                                        have B4 : Aside0 (Bk p3_12 g4 Z4) := ⟨h3_⟩
                                                        have BB : Aside0 (CS p3_12 gb [Vs, Us]) := ⟨h4_⟩
                                                        have hHeld := held7 ha_ hb_ (B1.out) (B2.out)
                                                        refine norm_ (a' := ?_) ?_ ?_
                                                        rotate_left
                                                        · simp only [putAll, Act.put, List.setIfInBounds_toArray, List.set_cons_zero, List.set_cons_succ]
                                                          rfl
                                                        refine three_ (i := 6) (j := 18) (k := 21) (Ni := some 31) (Nj := some 43) (Nk := some 8) #[true, true, true, true, true, true, true, false, true, true, true, true, true, false, true, true, true, true, false, false, false, false, false] #[true, true, true, true, true, true, false, false, true, true, true, true, true, false, true, true, true, true, true, false, false, false, false] #[true, true, true, true, true, true, false, false, true, true, true, true, true, false, true, true, true, true, false, false, false, true, false] rfl rfl rfl rfl rfl rfl (by kernel_rfl) (by decide) (by decide) (by decide) (fun K hK => ?_) (fun K hK => ?_) (fun K hK => ?_)
                                                        · skip
                                                          refine value_ (w1 := ?_) (v := ?_) (by rfl) rfl ?_ ?_
                                                          rotate_left 2
                                                          · go_simp
                                                            constructor
                                                            · rfl
                                                            · rfl
                                                          refine hK.out _ _ (held7 ha_ hb_ (blk_alloc B1.out _) (blk_alloc B2.out _)) (fun hHeld => ?_)
                                                          clear hK K
                                                          refine norm_ (a' := ?_) ?_ ?_
                                                          rotate_left
                                                          · show Act.put _ (some 31) _ = _
                                                            simp only [Act.put, List.setIfInBounds_toArray, List.set_cons_zero, List.set_cons_succ, i64_w, i32_w]
                                                            rfl
                                                          exact norm_ (by first | (simp only [putAll, Act.put, List.setIfInBounds_toArray, List.set_cons_zero, List.set_cons_succ]; done) | (simp only [putAll, Act.put, List.setIfInBounds_toArray, List.set_cons_zero, List.set_cons_succ]; rfl)) (hJ6_12 (p3_12.heap.size, gb) _ ⟨⟨below_alloc HB.out _, blk_alloc B1.out _, blk_alloc B2.out _, blk_alloc B4.out _⟩, C_two_ss p3_12 HC1.out (Kd.C_below HR1.out HB.out) HC4.out (Kd.C_below HR4.out HB.out), Kd.C_alloc BB.out _⟩)
                                                        · skip
                                                          refine value_ (w1 := ?_) (v := ?_) (by rfl) rfl ?_ ?_
                                                          rotate_left 2
                                                          · go_simp
                                                            constructor
                                                            · rfl
                                                            · rfl
                                                          refine hK.out _ _ (held7 ha_ hb_ (blk_alloc B1.out _) (blk_alloc B2.out _)) (fun hHeld => ?_)
                                                          clear hK K
                                                          refine norm_ (a' := ?_) ?_ ?_
                                                          rotate_left
                                                          · show Act.put _ (some 43) _ = _
                                                            simp only [Act.put, List.setIfInBounds_toArray, List.set_cons_zero, List.set_cons_succ, i64_w, i32_w]
                                                            rfl
                                                          exact norm_ (by first | (simp only [putAll, Act.put, List.setIfInBounds_toArray, List.set_cons_zero, List.set_cons_succ]; done) | (simp only [putAll, Act.put, List.setIfInBounds_toArray, List.set_cons_zero, List.set_cons_succ]; rfl)) (hJ12_18 (gb, p3_12.heap.size) _ ⟨⟨below_alloc HB.out _, blk_alloc B1.out _, blk_alloc B2.out _, blk_alloc B4.out _⟩, Kd.C_alloc BB.out _, C_two_si p3_12 HC3.out (Kd.C_below HR3.out HB.out) HC6.out (Kd.C_below HR6.out HB.out)⟩)
                                                        · skip
                                                          refine value_ (w1 := ?_) (v := ?_) (by rfl) rfl ?_ ?_
                                                          rotate_left 2
                                                          · go_simp
                                                            constructor
                                                            · rfl
                                                            · rfl
                                                          refine hK.out _ _ (held7 ha_ hb_ (blk_alloc B1.out _) (blk_alloc B2.out _)) (fun hHeld => ?_)
                                                          clear hK K
                                                          refine norm_ (a' := ?_) ?_ ?_
                                                          rotate_left
                                                          · show Act.put _ (some 8) _ = _
                                                            simp only [Act.put, List.setIfInBounds_toArray, List.set_cons_zero, List.set_cons_succ, i64_w, i32_w]
                                                            rfl
                                                          exact norm_ (by first | (simp only [putAll, Act.put, List.setIfInBounds_toArray, List.set_cons_zero, List.set_cons_succ]; done) | (simp only [putAll, Act.put, List.setIfInBounds_toArray, List.set_cons_zero, List.set_cons_succ]; rfl)) (hJ12_21 (gb, p3_12.heap.size) _ ⟨⟨below_alloc HB.out _, blk_alloc B1.out _, blk_alloc B2.out _, blk_alloc B4.out _⟩, Kd.C_alloc BB.out _, blk_new p3_12 _, Nat.ne_of_lt (blk_lt B1.out), Nat.ne_of_lt (blk_lt B2.out), Nat.ne_of_lt (blk_lt B4.out), below_size HB.out⟩)
                                                    · skip
                                                      rintro ga p3_6 ⟨⟨h0_, h1_, h2_, h3_⟩, h4_⟩
                                                      have HB : Aside0 (Below w.heap.size w p3_6) := ⟨h0_⟩
                                                      have B1 : Aside0 (Bk p3_6 g1 a_) := ⟨h1_⟩
                                                      have B2 : Aside0 (Bk p3_6 g2 b_) := ⟨h2_⟩
                                                      have B4 : Aside0 (Bk p3_6 g4 Z4) := ⟨h3_⟩
                                                      have BA : Aside0 (CS p3_6 ga [Ks, Ls]) := ⟨h4_⟩
                                                      have hHeld := held7 ha_ hb_ (B1.out) (B2.out)
                                                      refine norm_ (a' := ?_) ?_ ?_
                                                      rotate_left
                                                      · simp only [putAll, Act.put, List.setIfInBounds_toArray, List.set_cons_zero, List.set_cons_succ]
                                                        rfl
                                                      refine four_ (i := 7) (j := 12) (k := 18) (m := 21) (Ni := some 32) (Nj := some 37) (Nk := some 43) (Nm := some 8) #[true, true, true, true, true, true, true, true, true, true, true, true, false, false, true, true, true, true, false, false, false, false, false] #[true, true, true, true, true, true, true, false, true, true, true, true, true, false, true, true, true, true, false, false, false, false, false] #[true, true, true, true, true, true, true, false, true, true, true, true, false, false, true, true, true, true, true, false, false, false, false] #[true, true, true, true, true, true, true, false, true, true, true, true, false, false, true, true, true, true, false, false, false, true, false] rfl rfl rfl rfl rfl rfl rfl rfl (by kernel_rfl) (by decide) (by decide) (by decide) (by decide) (fun K hK => ?_) (fun K hK => ?_) (fun K hK => ?_) (fun K hK => ?_)
                                                      · skip
                                                        refine goes_ Try.func36 (by kernel_rfl) rfl #[.slice (some ⟨ga, 0, none⟩) ([Ks, Ls] : List _).length 2] (by rfl) rfl rfl (by simp only [List.map_toArray, List.map_cons, List.map_nil]; rfl) ?_
                                                        with_reducible refine (node_rows_string.calls k _ 2 [Ks, Ls] ks_ _ BA.out (Nat.le_refl _) T1.out).mono ?_
                                                        rintro e wc_ ⟨vk, rfl, ho_, hb⟩
                                                        refine ⟨_, rfl, ?_⟩
                                                        obtain ⟨Avk, cvk, e_⟩ := Kd.R_slice ho_
                                                        subst e_
                                                        have HK := Aside0.mk (Kd.R_lower ho_ (below_size HB.out))
                                                        have B1 := Aside0.mk (blk_below B1.out hb)
                                                        have B2 := Aside0.mk (blk_below B2.out hb)
                                                        have B4 := Aside0.mk (blk_below B4.out hb)
                                                        have HB := Aside0.mk (below_step HB.out hb)
                                                        clear ho_ hb
                                                        refine hK.out _ _ (held7 ha_ hb_ (B1.out) (B2.out)) (fun hHeld => ?_)
                                                        clear hK K
                                                        refine norm_ (a' := ?_) ?_ ?_
                                                        rotate_left
                                                        · show Act.put _ (some 32) _ = _
                                                          simp only [Act.put, List.setIfInBounds_toArray, List.set_cons_zero, List.set_cons_succ, i64_w, i32_w]
                                                          rfl
                                                        exact norm_ (by first | (simp only [putAll, Act.put, List.setIfInBounds_toArray, List.set_cons_zero, List.set_cons_succ]; done) | (simp only [putAll, Act.put, List.setIfInBounds_toArray, List.set_cons_zero, List.set_cons_succ]; rfl)) (hJ6_7 (ga, (Avk, cvk)) _ ⟨⟨HB.out, B1.out, B2.out, B4.out⟩, HK.out⟩)
                                                      · skip
                                                        refine value_ (w1 := ?_) (v := ?_) (by rfl) rfl ?_ ?_
                                                        rotate_left 2
                                                        · go_simp
                                                          constructor
                                                          · rfl
                                                          · rfl
                                                        refine hK.out _ _ (held7 ha_ hb_ (blk_alloc B1.out _) (blk_alloc B2.out _)) (fun hHeld => ?_)
                                                        clear hK K
                                                        refine norm_ (a' := ?_) ?_ ?_
                                                        rotate_left
                                                        · show Act.put _ (some 37) _ = _
                                                          simp only [Act.put, List.setIfInBounds_toArray, List.set_cons_zero, List.set_cons_succ, i64_w, i32_w]
                                                          rfl
                                                        exact norm_ (by first | (simp only [putAll, Act.put, List.setIfInBounds_toArray, List.set_cons_zero, List.set_cons_succ]; done) | (simp only [putAll, Act.put, List.setIfInBounds_toArray, List.set_cons_zero, List.set_cons_succ]; rfl)) (hJ6_12 (ga, p3_6.heap.size) _ ⟨⟨below_alloc HB.out _, blk_alloc B1.out _, blk_alloc B2.out _, blk_alloc B4.out _⟩, Kd.C_alloc BA.out _, C_two_ss p3_6 HC2.out (Kd.C_below HR2.out HB.out) HC5.out (Kd.C_below HR5.out HB.out)⟩)
                                                      · skip
                                                        refine value_ (w1 := ?_) (v := ?_) (by rfl) rfl ?_ ?_
                                                        rotate_left 2
                                                        · go_simp
                                                          constructor
                                                          · rfl
                                                          · rfl
                                                        refine hK.out _ _ (held7 ha_ hb_ (blk_alloc B1.out _) (blk_alloc B2.out _)) (fun hHeld => ?_)
                                                        clear hK K
                                                        refine norm_ (a' := ?_) ?_ ?_
                                                        rotate_left
                                                        · show Act.put _ (some 43) _ = _
                                                          simp only [Act.put, List.setIfInBounds_toArray, List.set_cons_zero, List.set_cons_succ, i64_w, i32_w]
                                                          rfl
                                                        exact norm_ (by first | (simp only [putAll, Act.put, List.setIfInBounds_toArray, List.set_cons_zero, List.set_cons_succ]; done) | (simp only [putAll, Act.put, List.setIfInBounds_toArray, List.set_cons_zero, List.set_cons_succ]; rfl)) (hJ6_18 (ga, p3_6.heap.size) _ ⟨⟨below_alloc HB.out _, blk_alloc B1.out _, blk_alloc B2.out _, blk_alloc B4.out _⟩, Kd.C_alloc BA.out _, C_two_si p3_6 HC3.out (Kd.C_below HR3.out HB.out) HC6.out (Kd.C_below HR6.out HB.out)⟩)
                                                      · skip
                                                        refine value_ (w1 := ?_) (v := ?_) (by rfl) rfl ?_ ?_
                                                        rotate_left 2
                                                        · go_simp
                                                          constructor
                                                          · rfl
                                                          · rfl
                                                        refine hK.out _ _ (held7 ha_ hb_ (blk_alloc B1.out _) (blk_alloc B2.out _)) (fun hHeld => ?_)
                                                        clear hK K
                                                        refine norm_ (a' := ?_) ?_ ?_
                                                        rotate_left
                                                        · show Act.put _ (some 8) _ = _
                                                          simp only [Act.put, List.setIfInBounds_toArray, List.set_cons_zero, List.set_cons_succ, i64_w, i32_w]
                                                          rfl
                                                        exact norm_ (by first | (simp only [putAll, Act.put, List.setIfInBounds_toArray, List.set_cons_zero, List.set_cons_succ]; done) | (simp only [putAll, Act.put, List.setIfInBounds_toArray, List.set_cons_zero, List.set_cons_succ]; rfl)) (hJ6_21 (ga, p3_6.heap.size) _ ⟨⟨below_alloc HB.out _, blk_alloc B1.out _, blk_alloc B2.out _, blk_alloc B4.out _⟩, Kd.C_alloc BA.out _, blk_new p3_6 _, Nat.ne_of_lt (blk_lt B1.out), Nat.ne_of_lt (blk_lt B2.out), Nat.ne_of_lt (blk_lt B4.out), below_size HB.out⟩)
                                                  · skip
                                                    rintro ⟨gc, g7⟩ p3_18_21 ⟨⟨h0_, h1_, h2_, h3_⟩, h4_, h5_, h6_, h7_, h8_, h9_⟩
                                                    have HB : Aside0 (Below w.heap.size w p3_18_21) := ⟨h0_⟩
                                                    have B1 : Aside0 (Bk p3_18_21 g1 a_) := ⟨h1_⟩
                                                    have B2 : Aside0 (Bk p3_18_21 g2 b_) := ⟨h2_⟩
                                                    have B4 : Aside0 (Bk p3_18_21 g4 Z4) := ⟨h3_⟩
                                                    have BC : Aside0 (CI p3_18_21 gc [Cs, Ds]) := ⟨h4_⟩
                                                    have B7 : Aside0 (Bk p3_18_21 g7 Z4) := ⟨h5_⟩
                                                    have NE1 : Aside0 (g1 ≠ g7) := ⟨h6_⟩
                                                    have NE2 : Aside0 (g2 ≠ g7) := ⟨h7_⟩
                                                    have NE4 : Aside0 (g4 ≠ g7) := ⟨h8_⟩
                                                    have G7 : Aside0 (w.heap.size ≤ g7) := ⟨h9_⟩
                                                    have hHeld := held7 ha_ hb_ (B1.out) (B2.out)
                                                    refine norm_ (a' := ?_) ?_ ?_
                                                    rotate_left
                                                    · simp only [putAll, Act.put, List.setIfInBounds_toArray, List.set_cons_zero, List.set_cons_succ]
                                                      rfl
                                                    refine two_ (i := 6) (j := 12) (Ni := some 31) (Nj := some 37) #[true, true, true, true, true, true, true, false, true, true, true, true, false, false, true, true, true, true, true, false, false, true, false] #[true, true, true, true, true, true, false, false, true, true, true, true, true, false, true, true, true, true, true, false, false, true, false] rfl rfl rfl rfl (by kernel_rfl) (by decide) (by decide) (fun K hK => ?_) (fun K hK => ?_)
                                                    · skip
                                                      refine value_ (w1 := ?_) (v := ?_) (by rfl) rfl ?_ ?_
                                                      rotate_left 2
                                                      · go_simp
                                                        constructor
                                                        · rfl
                                                        · rfl
                                                      refine hK.out _ _ (held7 ha_ hb_ (blk_alloc B1.out _) (blk_alloc B2.out _)) (fun hHeld => ?_)
                                                      clear hK K
                                                      refine norm_ (a' := ?_) ?_ ?_
                                                      rotate_left
                                                      · show Act.put _ (some 31) _ = _
                                                        simp only [Act.put, List.setIfInBounds_toArray, List.set_cons_zero, List.set_cons_succ, i64_w, i32_w]
                                                        rfl
                                                      exact norm_ (by first | (simp only [putAll, Act.put, List.setIfInBounds_toArray, List.set_cons_zero, List.set_cons_succ]; done) | (simp only [putAll, Act.put, List.setIfInBounds_toArray, List.set_cons_zero, List.set_cons_succ]; rfl)) (hJ6_18_21 (p3_18_21.heap.size, gc, g7) _ ⟨⟨below_alloc HB.out _, blk_alloc B1.out _, blk_alloc B2.out _, blk_alloc B4.out _⟩, C_two_ss p3_18_21 HC1.out (Kd.C_below HR1.out HB.out) HC4.out (Kd.C_below HR4.out HB.out), Kd.C_alloc BC.out _, blk_alloc B7.out _, NE1.out, NE2.out, NE4.out, G7.out⟩)
                                                    · skip
                                                      refine value_ (w1 := ?_) (v := ?_) (by rfl) rfl ?_ ?_
                                                      rotate_left 2
                                                      · go_simp
                                                        constructor
                                                        · rfl
                                                        · rfl
                                                      refine hK.out _ _ (held7 ha_ hb_ (blk_alloc B1.out _) (blk_alloc B2.out _)) (fun hHeld => ?_)
                                                      clear hK K
                                                      refine norm_ (a' := ?_) ?_ ?_
                                                      rotate_left
                                                      · show Act.put _ (some 37) _ = _
                                                        simp only [Act.put, List.setIfInBounds_toArray, List.set_cons_zero, List.set_cons_succ, i64_w, i32_w]
                                                        rfl
                                                      exact norm_ (by first | (simp only [putAll, Act.put, List.setIfInBounds_toArray, List.set_cons_zero, List.set_cons_succ]; done) | (simp only [putAll, Act.put, List.setIfInBounds_toArray, List.set_cons_zero, List.set_cons_succ]; rfl)) (hJ12_18_21 (p3_18_21.heap.size, gc, g7) _ ⟨⟨below_alloc HB.out _, blk_alloc B1.out _, blk_alloc B2.out _, blk_alloc B4.out _⟩, C_two_ss p3_18_21 HC2.out (Kd.C_below HR2.out HB.out) HC5.out (Kd.C_below HR5.out HB.out), Kd.C_alloc BC.out _, blk_alloc B7.out _, NE1.out, NE2.out, NE4.out, G7.out⟩)
                                                · skip
                                                  rintro ⟨gb, g7⟩ p3_12_21 ⟨⟨h0_, h1_, h2_, h3_⟩, h4_, h5_, h6_, h7_, h8_, h9_⟩
                                                  have HB : Aside0 (Below w.heap.size w p3_12_21) := ⟨h0_⟩
                                                  have B1 : Aside0 (Bk p3_12_21 g1 a_) := ⟨h1_⟩
                                                  have B2 : Aside0 (Bk p3_12_21 g2 b_) := ⟨h2_⟩
                                                  have B4 : Aside0 (Bk p3_12_21 g4 Z4) := ⟨h3_⟩
                                                  have BB : Aside0 (CS p3_12_21 gb [Vs, Us]) := ⟨h4_⟩
                                                  have B7 : Aside0 (Bk p3_12_21 g7 Z4) := ⟨h5_⟩
                                                  have NE1 : Aside0 (g1 ≠ g7) := ⟨h6_⟩
                                                  have NE2 : Aside0 (g2 ≠ g7) := ⟨h7_⟩
                                                  have NE4 : Aside0 (g4 ≠ g7) := ⟨h8_⟩
                                                  have G7 : Aside0 (w.heap.size ≤ g7) := ⟨h9_⟩
                                                  have hHeld := held7 ha_ hb_ (B1.out) (B2.out)
                                                  refine norm_ (a' := ?_) ?_ ?_
                                                  rotate_left
                                                  · simp only [putAll, Act.put, List.setIfInBounds_toArray, List.set_cons_zero, List.set_cons_succ]
                                                    rfl
                                                  refine two_ (i := 6) (j := 18) (Ni := some 31) (Nj := some 43) #[true, true, true, true, true, true, true, false, true, true, true, true, true, false, true, true, true, true, false, false, false, true, false] #[true, true, true, true, true, true, false, false, true, true, true, true, true, false, true, true, true, true, true, false, false, true, false] rfl rfl rfl rfl (by kernel_rfl) (by decide) (by decide) (fun K hK => ?_) (fun K hK => ?_)
                                                  · skip
                                                    refine value_ (w1 := ?_) (v := ?_) (by rfl) rfl ?_ ?_
                                                    rotate_left 2
                                                    · go_simp
                                                      constructor
                                                      · rfl
                                                      · rfl
                                                    refine hK.out _ _ (held7 ha_ hb_ (blk_alloc B1.out _) (blk_alloc B2.out _)) (fun hHeld => ?_)
                                                    clear hK K
                                                    refine norm_ (a' := ?_) ?_ ?_
                                                    rotate_left
                                                    · show Act.put _ (some 31) _ = _
                                                      simp only [Act.put, List.setIfInBounds_toArray, List.set_cons_zero, List.set_cons_succ, i64_w, i32_w]
                                                      rfl
                                                    exact norm_ (by first | (simp only [putAll, Act.put, List.setIfInBounds_toArray, List.set_cons_zero, List.set_cons_succ]; done) | (simp only [putAll, Act.put, List.setIfInBounds_toArray, List.set_cons_zero, List.set_cons_succ]; rfl)) (hJ6_12_21 (p3_12_21.heap.size, gb, g7) _ ⟨⟨below_alloc HB.out _, blk_alloc B1.out _, blk_alloc B2.out _, blk_alloc B4.out _⟩, C_two_ss p3_12_21 HC1.out (Kd.C_below HR1.out HB.out) HC4.out (Kd.C_below HR4.out HB.out), Kd.C_alloc BB.out _, blk_alloc B7.out _, NE1.out, NE2.out, NE4.out, G7.out⟩)
                                                  · skip
                                                    refine value_ (w1 := ?_) (v := ?_) (by rfl) rfl ?_ ?_
                                                    rotate_left 2
                                                    · go_simp
                                                      constructor
                                                      · rfl
                                                      · rfl
                                                    refine hK.out _ _ (held7 ha_ hb_ (blk_alloc B1.out _) (blk_alloc B2.out _)) (fun hHeld => ?_)
                                                    clear hK K
                                                    refine norm_ (a' := ?_) ?_ ?_
                                                    rotate_left
                                                    · show Act.put _ (some 43) _ = _
                                                      simp only [Act.put, List.setIfInBounds_toArray, List.set_cons_zero, List.set_cons_succ, i64_w, i32_w]
                                                      rfl
                                                    exact norm_ (by first | (simp only [putAll, Act.put, List.setIfInBounds_toArray, List.set_cons_zero, List.set_cons_succ]; done) | (simp only [putAll, Act.put, List.setIfInBounds_toArray, List.set_cons_zero, List.set_cons_succ]; rfl)) (hJ12_18_21 (gb, p3_12_21.heap.size, g7) _ ⟨⟨below_alloc HB.out _, blk_alloc B1.out _, blk_alloc B2.out _, blk_alloc B4.out _⟩, Kd.C_alloc BB.out _, C_two_si p3_12_21 HC3.out (Kd.C_below HR3.out HB.out) HC6.out (Kd.C_below HR6.out HB.out), blk_alloc B7.out _, NE1.out, NE2.out, NE4.out, G7.out⟩)
                                              · skip
                                                rintro ⟨gb, gc⟩ p3_12_18 ⟨⟨h0_, h1_, h2_, h3_⟩, h4_, h5_⟩
                                                have HB : Aside0 (Below w.heap.size w p3_12_18) := ⟨h0_⟩
                                                have B1 : Aside0 (Bk p3_12_18 g1 a_) := ⟨h1_⟩
                                                have B2 : Aside0 (Bk p3_12_18 g2 b_) := ⟨h2_⟩
                                                have B4 : Aside0 (Bk p3_12_18 g4 Z4) := ⟨h3_⟩
                                                have BB : Aside0 (CS p3_12_18 gb [Vs, Us]) := ⟨h4_⟩
                                                have BC : Aside0 (CI p3_12_18 gc [Cs, Ds]) := ⟨h5_⟩
                                                have hHeld := held7 ha_ hb_ (B1.out) (B2.out)
                                                refine norm_ (a' := ?_) ?_ ?_
                                                rotate_left
                                                · simp only [putAll, Act.put, List.setIfInBounds_toArray, List.set_cons_zero, List.set_cons_succ]
                                                  rfl
                                                refine two_ (i := 6) (j := 21) (Ni := some 31) (Nj := some 8) #[true, true, true, true, true, true, true, false, true, true, true, true, true, false, true, true, true, true, true, false, false, false, false] #[true, true, true, true, true, true, false, false, true, true, true, true, true, false, true, true, true, true, true, false, false, true, false] rfl rfl rfl rfl (by kernel_rfl) (by decide) (by decide) (fun K hK => ?_) (fun K hK => ?_)
                                                · skip
                                                  refine value_ (w1 := ?_) (v := ?_) (by rfl) rfl ?_ ?_
                                                  rotate_left 2
                                                  · go_simp
                                                    constructor
                                                    · rfl
                                                    · rfl
                                                  refine hK.out _ _ (held7 ha_ hb_ (blk_alloc B1.out _) (blk_alloc B2.out _)) (fun hHeld => ?_)
                                                  clear hK K
                                                  refine norm_ (a' := ?_) ?_ ?_
                                                  rotate_left
                                                  · show Act.put _ (some 31) _ = _
                                                    simp only [Act.put, List.setIfInBounds_toArray, List.set_cons_zero, List.set_cons_succ, i64_w, i32_w]
                                                    rfl
                                                  exact norm_ (by first | (simp only [putAll, Act.put, List.setIfInBounds_toArray, List.set_cons_zero, List.set_cons_succ]; done) | (simp only [putAll, Act.put, List.setIfInBounds_toArray, List.set_cons_zero, List.set_cons_succ]; rfl)) (hJ6_12_18 (p3_12_18.heap.size, gb, gc) _ ⟨⟨below_alloc HB.out _, blk_alloc B1.out _, blk_alloc B2.out _, blk_alloc B4.out _⟩, C_two_ss p3_12_18 HC1.out (Kd.C_below HR1.out HB.out) HC4.out (Kd.C_below HR4.out HB.out), Kd.C_alloc BB.out _, Kd.C_alloc BC.out _⟩)
                                                · skip
                                                  refine value_ (w1 := ?_) (v := ?_) (by rfl) rfl ?_ ?_
                                                  rotate_left 2
                                                  · go_simp
                                                    constructor
                                                    · rfl
                                                    · rfl
                                                  refine hK.out _ _ (held7 ha_ hb_ (blk_alloc B1.out _) (blk_alloc B2.out _)) (fun hHeld => ?_)
                                                  clear hK K
                                                  refine norm_ (a' := ?_) ?_ ?_
                                                  rotate_left
                                                  · show Act.put _ (some 8) _ = _
                                                    simp only [Act.put, List.setIfInBounds_toArray, List.set_cons_zero, List.set_cons_succ, i64_w, i32_w]
                                                    rfl
                                                  exact norm_ (by first | (simp only [putAll, Act.put, List.setIfInBounds_toArray, List.set_cons_zero, List.set_cons_succ]; done) | (simp only [putAll, Act.put, List.setIfInBounds_toArray, List.set_cons_zero, List.set_cons_succ]; rfl)) (hJ12_18_21 (gb, gc, p3_12_18.heap.size) _ ⟨⟨below_alloc HB.out _, blk_alloc B1.out _, blk_alloc B2.out _, blk_alloc B4.out _⟩, Kd.C_alloc BB.out _, Kd.C_alloc BC.out _, blk_new p3_12_18 _, Nat.ne_of_lt (blk_lt B1.out), Nat.ne_of_lt (blk_lt B2.out), Nat.ne_of_lt (blk_lt B4.out), below_size HB.out⟩)
                                            · skip
                                              rintro ⟨ga, g7⟩ p3_6_21 ⟨⟨h0_, h1_, h2_, h3_⟩, h4_, h5_, h6_, h7_, h8_, h9_⟩
                                              have HB : Aside0 (Below w.heap.size w p3_6_21) := ⟨h0_⟩
                                              have B1 : Aside0 (Bk p3_6_21 g1 a_) := ⟨h1_⟩
                                              have B2 : Aside0 (Bk p3_6_21 g2 b_) := ⟨h2_⟩
                                              have B4 : Aside0 (Bk p3_6_21 g4 Z4) := ⟨h3_⟩
                                              have BA : Aside0 (CS p3_6_21 ga [Ks, Ls]) := ⟨h4_⟩
                                              have B7 : Aside0 (Bk p3_6_21 g7 Z4) := ⟨h5_⟩
                                              have NE1 : Aside0 (g1 ≠ g7) := ⟨h6_⟩
                                              have NE2 : Aside0 (g2 ≠ g7) := ⟨h7_⟩
                                              have NE4 : Aside0 (g4 ≠ g7) := ⟨h8_⟩
                                              have G7 : Aside0 (w.heap.size ≤ g7) := ⟨h9_⟩
                                              have hHeld := held7 ha_ hb_ (B1.out) (B2.out)
                                              refine norm_ (a' := ?_) ?_ ?_
                                              rotate_left
                                              · simp only [putAll, Act.put, List.setIfInBounds_toArray, List.set_cons_zero, List.set_cons_succ]
                                                rfl
                                              refine three_ (i := 7) (j := 12) (k := 18) (Ni := some 32) (Nj := some 37) (Nk := some 43) #[true, true, true, true, true, true, true, true, true, true, true, true, false, false, true, true, true, true, false, false, false, true, false] #[true, true, true, true, true, true, true, false, true, true, true, true, true, false, true, true, true, true, false, false, false, true, false] #[true, true, true, true, true, true, true, false, true, true, true, true, false, false, true, true, true, true, true, false, false, true, false] rfl rfl rfl rfl rfl rfl (by kernel_rfl) (by decide) (by decide) (by decide) (fun K hK => ?_) (fun K hK => ?_) (fun K hK => ?_)
                                              · skip
                                                refine goes_ Try.func36 (by kernel_rfl) rfl #[.slice (some ⟨ga, 0, none⟩) ([Ks, Ls] : List _).length 2] (by rfl) rfl rfl (by simp only [List.map_toArray, List.map_cons, List.map_nil]; rfl) ?_
                                                with_reducible refine (node_rows_string.calls k _ 2 [Ks, Ls] ks_ _ BA.out (Nat.le_refl _) T1.out).mono ?_
                                                rintro e wc_ ⟨vk, rfl, ho_, hb⟩
                                                refine ⟨_, rfl, ?_⟩
                                                obtain ⟨Avk, cvk, e_⟩ := Kd.R_slice ho_
                                                subst e_
                                                have HK := Aside0.mk (Kd.R_lower ho_ (below_size HB.out))
                                                have B1 := Aside0.mk (blk_below B1.out hb)
                                                have B2 := Aside0.mk (blk_below B2.out hb)
                                                have B4 := Aside0.mk (blk_below B4.out hb)
                                                have B7 := Aside0.mk (blk_below B7.out hb)
                                                have HB := Aside0.mk (below_step HB.out hb)
                                                clear ho_ hb
                                                refine hK.out _ _ (held7 ha_ hb_ (B1.out) (B2.out)) (fun hHeld => ?_)
                                                clear hK K
                                                refine norm_ (a' := ?_) ?_ ?_
                                                rotate_left
                                                · show Act.put _ (some 32) _ = _
                                                  simp only [Act.put, List.setIfInBounds_toArray, List.set_cons_zero, List.set_cons_succ, i64_w, i32_w]
                                                  rfl
                                                exact norm_ (by first | (simp only [putAll, Act.put, List.setIfInBounds_toArray, List.set_cons_zero, List.set_cons_succ]; done) | (simp only [putAll, Act.put, List.setIfInBounds_toArray, List.set_cons_zero, List.set_cons_succ]; rfl)) (hJ6_7_21 (ga, (Avk, cvk), g7) _ ⟨⟨HB.out, B1.out, B2.out, B4.out⟩, HK.out, B7.out, NE1.out, NE2.out, NE4.out, G7.out⟩)
                                              · skip
                                                refine value_ (w1 := ?_) (v := ?_) (by rfl) rfl ?_ ?_
                                                rotate_left 2
                                                · go_simp
                                                  constructor
                                                  · rfl
                                                  · rfl
                                                refine hK.out _ _ (held7 ha_ hb_ (blk_alloc B1.out _) (blk_alloc B2.out _)) (fun hHeld => ?_)
                                                clear hK K
                                                refine norm_ (a' := ?_) ?_ ?_
                                                rotate_left
                                                · show Act.put _ (some 37) _ = _
                                                  simp only [Act.put, List.setIfInBounds_toArray, List.set_cons_zero, List.set_cons_succ, i64_w, i32_w]
                                                  rfl
                                                exact norm_ (by first | (simp only [putAll, Act.put, List.setIfInBounds_toArray, List.set_cons_zero, List.set_cons_succ]; done) | (simp only [putAll, Act.put, List.setIfInBounds_toArray, List.set_cons_zero, List.set_cons_succ]; rfl)) (hJ6_12_21 (ga, p3_6_21.heap.size, g7) _ ⟨⟨below_alloc HB.out _, blk_alloc B1.out _, blk_alloc B2.out _, blk_alloc B4.out _⟩, Kd.C_alloc BA.out _, C_two_ss p3_6_21 HC2.out (Kd.C_below HR2.out HB.out) HC5.out (Kd.C_below HR5.out HB.out), blk_alloc B7.out _, NE1.out, NE2.out, NE4.out, G7.out⟩)
                                              · skip
                                                refine value_ (w1 := ?_) (v := ?_) (by rfl) rfl ?_ ?_
                                                rotate_left 2
                                                · go_simp
                                                  constructor
                                                  · rfl
                                                  · rfl
                                                refine hK.out _ _ (held7 ha_ hb_ (blk_alloc B1.out _) (blk_alloc B2.out _)) (fun hHeld => ?_)
                                                clear hK K
                                                refine norm_ (a' := ?_) ?_ ?_
                                                rotate_left
                                                · show Act.put _ (some 43) _ = _
                                                  simp only [Act.put, List.setIfInBounds_toArray, List.set_cons_zero, List.set_cons_succ, i64_w, i32_w]
                                                  rfl
                                                exact norm_ (by first | (simp only [putAll, Act.put, List.setIfInBounds_toArray, List.set_cons_zero, List.set_cons_succ]; done) | (simp only [putAll, Act.put, List.setIfInBounds_toArray, List.set_cons_zero, List.set_cons_succ]; rfl)) (hJ6_18_21 (ga, p3_6_21.heap.size, g7) _ ⟨⟨below_alloc HB.out _, blk_alloc B1.out _, blk_alloc B2.out _, blk_alloc B4.out _⟩, Kd.C_alloc BA.out _, C_two_si p3_6_21 HC3.out (Kd.C_below HR3.out HB.out) HC6.out (Kd.C_below HR6.out HB.out), blk_alloc B7.out _, NE1.out, NE2.out, NE4.out, G7.out⟩)
                                          · skip
                                            rintro ⟨ga, gc⟩ p3_6_18 ⟨⟨h0_, h1_, h2_, h3_⟩, h4_, h5_⟩
                                            have HB : Aside0 (Below w.heap.size w p3_6_18) := ⟨h0_⟩
                                            have B1 : Aside0 (Bk p3_6_18 g1 a_) := ⟨h1_⟩
                                            have B2 : Aside0 (Bk p3_6_18 g2 b_) := ⟨h2_⟩
                                            have B4 : Aside0 (Bk p3_6_18 g4 Z4) := ⟨h3_⟩
                                            have BA : Aside0 (CS p3_6_18 ga [Ks, Ls]) := ⟨h4_⟩
                                            have BC : Aside0 (CI p3_6_18 gc [Cs, Ds]) := ⟨h5_⟩
                                            have hHeld := held7 ha_ hb_ (B1.out) (B2.out)
                                            refine norm_ (a' := ?_) ?_ ?_
                                            rotate_left
                                            · simp only [putAll, Act.put, List.setIfInBounds_toArray, List.set_cons_zero, List.set_cons_succ]
                                              rfl
                                            refine three_ (i := 7) (j := 12) (k := 21) (Ni := some 32) (Nj := some 37) (Nk := some 8) #[true, true, true, true, true, true, true, true, true, true, true, true, false, false, true, true, true, true, true, false, false, false, false] #[true, true, true, true, true, true, true, false, true, true, true, true, true, false, true, true, true, true, true, false, false, false, false] #[true, true, true, true, true, true, true, false, true, true, true, true, false, false, true, true, true, true, true, false, false, true, false] rfl rfl rfl rfl rfl rfl (by kernel_rfl) (by decide) (by decide) (by decide) (fun K hK => ?_) (fun K hK => ?_) (fun K hK => ?_)
                                            · skip
                                              refine goes_ Try.func36 (by kernel_rfl) rfl #[.slice (some ⟨ga, 0, none⟩) ([Ks, Ls] : List _).length 2] (by rfl) rfl rfl (by simp only [List.map_toArray, List.map_cons, List.map_nil]; rfl) ?_
                                              with_reducible refine (node_rows_string.calls k _ 2 [Ks, Ls] ks_ _ BA.out (Nat.le_refl _) T1.out).mono ?_
                                              rintro e wc_ ⟨vk, rfl, ho_, hb⟩
                                              refine ⟨_, rfl, ?_⟩
                                              obtain ⟨Avk, cvk, e_⟩ := Kd.R_slice ho_
                                              subst e_
                                              have HK := Aside0.mk (Kd.R_lower ho_ (below_size HB.out))
                                              have B1 := Aside0.mk (blk_below B1.out hb)
                                              have B2 := Aside0.mk (blk_below B2.out hb)
                                              have B4 := Aside0.mk (blk_below B4.out hb)
                                              have BC := Aside0.mk (Kd.C_below BC.out hb)
                                              have HB := Aside0.mk (below_step HB.out hb)
                                              clear ho_ hb
                                              refine hK.out _ _ (held7 ha_ hb_ (B1.out) (B2.out)) (fun hHeld => ?_)
                                              clear hK K
                                              refine norm_ (a' := ?_) ?_ ?_
                                              rotate_left
                                              · show Act.put _ (some 32) _ = _
                                                simp only [Act.put, List.setIfInBounds_toArray, List.set_cons_zero, List.set_cons_succ, i64_w, i32_w]
                                                rfl
                                              exact norm_ (by first | (simp only [putAll, Act.put, List.setIfInBounds_toArray, List.set_cons_zero, List.set_cons_succ]; done) | (simp only [putAll, Act.put, List.setIfInBounds_toArray, List.set_cons_zero, List.set_cons_succ]; rfl)) (hJ6_7_18 (ga, (Avk, cvk), gc) _ ⟨⟨HB.out, B1.out, B2.out, B4.out⟩, HK.out, BC.out⟩)
                                            · skip
                                              refine value_ (w1 := ?_) (v := ?_) (by rfl) rfl ?_ ?_
                                              rotate_left 2
                                              · go_simp
                                                constructor
                                                · rfl
                                                · rfl
                                              refine hK.out _ _ (held7 ha_ hb_ (blk_alloc B1.out _) (blk_alloc B2.out _)) (fun hHeld => ?_)
                                              clear hK K
                                              refine norm_ (a' := ?_) ?_ ?_
                                              rotate_left
                                              · show Act.put _ (some 37) _ = _
                                                simp only [Act.put, List.setIfInBounds_toArray, List.set_cons_zero, List.set_cons_succ, i64_w, i32_w]
                                                rfl
                                              exact norm_ (by first | (simp only [putAll, Act.put, List.setIfInBounds_toArray, List.set_cons_zero, List.set_cons_succ]; done) | (simp only [putAll, Act.put, List.setIfInBounds_toArray, List.set_cons_zero, List.set_cons_succ]; rfl)) (hJ6_12_18 (ga, p3_6_18.heap.size, gc) _ ⟨⟨below_alloc HB.out _, blk_alloc B1.out _, blk_alloc B2.out _, blk_alloc B4.out _⟩, Kd.C_alloc BA.out _, C_two_ss p3_6_18 HC2.out (Kd.C_below HR2.out HB.out) HC5.out (Kd.C_below HR5.out HB.out), Kd.C_alloc BC.out _⟩)
                                            · skip
                                              refine value_ (w1 := ?_) (v := ?_) (by rfl) rfl ?_ ?_
                                              rotate_left 2
                                              · go_simp
                                                constructor
                                                · rfl
                                                · rfl
                                              refine hK.out _ _ (held7 ha_ hb_ (blk_alloc B1.out _) (blk_alloc B2.out _)) (fun hHeld => ?_)
                                              clear hK K
                                              refine norm_ (a' := ?_) ?_ ?_
                                              rotate_left
                                              · show Act.put _ (some 8) _ = _
                                                simp only [Act.put, List.setIfInBounds_toArray, List.set_cons_zero, List.set_cons_succ, i64_w, i32_w]
                                                rfl
                                              exact norm_ (by first | (simp only [putAll, Act.put, List.setIfInBounds_toArray, List.set_cons_zero, List.set_cons_succ]; done) | (simp only [putAll, Act.put, List.setIfInBounds_toArray, List.set_cons_zero, List.set_cons_succ]; rfl)) (hJ6_18_21 (ga, gc, p3_6_18.heap.size) _ ⟨⟨below_alloc HB.out _, blk_alloc B1.out _, blk_alloc B2.out _, blk_alloc B4.out _⟩, Kd.C_alloc BA.out _, Kd.C_alloc BC.out _, blk_new p3_6_18 _, Nat.ne_of_lt (blk_lt B1.out), Nat.ne_of_lt (blk_lt B2.out), Nat.ne_of_lt (blk_lt B4.out), below_size HB.out⟩)
                                        · skip
                                          rintro ⟨ga, gb⟩ p3_6_12 ⟨⟨h0_, h1_, h2_, h3_⟩, h4_, h5_⟩
                                          have HB : Aside0 (Below w.heap.size w p3_6_12) := ⟨h0_⟩
                                          have B1 : Aside0 (Bk p3_6_12 g1 a_) := ⟨h1_⟩
                                          have B2 : Aside0 (Bk p3_6_12 g2 b_) := ⟨h2_⟩
                                          have B4 : Aside0 (Bk p3_6_12 g4 Z4) := ⟨h3_⟩
                                          have BA : Aside0 (CS p3_6_12 ga [Ks, Ls]) := ⟨h4_⟩
                                          have BB : Aside0 (CS p3_6_12 gb [Vs, Us]) := ⟨h5_⟩
                                          have hHeld := held7 ha_ hb_ (B1.out) (B2.out)
                                          refine norm_ (a' := ?_) ?_ ?_
                                          rotate_left
                                          · simp only [putAll, Act.put, List.setIfInBounds_toArray, List.set_cons_zero, List.set_cons_succ]
                                            rfl
                                          refine three_ (i := 7) (j := 18) (k := 21) (Ni := some 32) (Nj := some 43) (Nk := some 8) #[true, true, true, true, true, true, true, true, true, true, true, true, true, false, true, true, true, true, false, false, false, false, false] #[true, true, true, true, true, true, true, false, true, true, true, true, true, false, true, true, true, true, true, false, false, false, false] #[true, true, true, true, true, true, true, false, true, true, true, true, true, false, true, true, true, true, false, false, false, true, false] rfl rfl rfl rfl rfl rfl (by kernel_rfl) (by decide) (by decide) (by decide) (fun K hK => ?_) (fun K hK => ?_) (fun K hK => ?_)
                                          · skip
                                            refine goes_ Try.func36 (by kernel_rfl) rfl #[.slice (some ⟨ga, 0, none⟩) ([Ks, Ls] : List _).length 2] (by rfl) rfl rfl (by simp only [List.map_toArray, List.map_cons, List.map_nil]; rfl) ?_
                                            with_reducible refine (node_rows_string.calls k _ 2 [Ks, Ls] ks_ _ BA.out (Nat.le_refl _) T1.out).mono ?_
                                            rintro e wc_ ⟨vk, rfl, ho_, hb⟩
                                            refine ⟨_, rfl, ?_⟩
                                            obtain ⟨Avk, cvk, e_⟩ := Kd.R_slice ho_
                                            subst e_
                                            have HK := Aside0.mk (Kd.R_lower ho_ (below_size HB.out))
                                            have B1 := Aside0.mk (blk_below B1.out hb)
                                            have B2 := Aside0.mk (blk_below B2.out hb)
                                            have B4 := Aside0.mk (blk_below B4.out hb)
                                            have BB := Aside0.mk (Kd.C_below BB.out hb)
                                            have HB := Aside0.mk (below_step HB.out hb)
                                            clear ho_ hb
                                            refine hK.out _ _ (held7 ha_ hb_ (B1.out) (B2.out)) (fun hHeld => ?_)
                                            clear hK K
                                            refine norm_ (a' := ?_) ?_ ?_
                                            rotate_left
                                            · show Act.put _ (some 32) _ = _
                                              simp only [Act.put, List.setIfInBounds_toArray, List.set_cons_zero, List.set_cons_succ, i64_w, i32_w]
                                              rfl
                                            exact norm_ (by first | (simp only [putAll, Act.put, List.setIfInBounds_toArray, List.set_cons_zero, List.set_cons_succ]; done) | (simp only [putAll, Act.put, List.setIfInBounds_toArray, List.set_cons_zero, List.set_cons_succ]; rfl)) (hJ6_7_12 (ga, (Avk, cvk), gb) _ ⟨⟨HB.out, B1.out, B2.out, B4.out⟩, HK.out, BB.out⟩)
                                          · skip
                                            refine value_ (w1 := ?_) (v := ?_) (by rfl) rfl ?_ ?_
                                            rotate_left 2
                                            · go_simp
                                              constructor
                                              · rfl
                                              · rfl
                                            refine hK.out _ _ (held7 ha_ hb_ (blk_alloc B1.out _) (blk_alloc B2.out _)) (fun hHeld => ?_)
                                            clear hK K
                                            refine norm_ (a' := ?_) ?_ ?_
                                            rotate_left
                                            · show Act.put _ (some 43) _ = _
                                              simp only [Act.put, List.setIfInBounds_toArray, List.set_cons_zero, List.set_cons_succ, i64_w, i32_w]
                                              rfl
                                            exact norm_ (by first | (simp only [putAll, Act.put, List.setIfInBounds_toArray, List.set_cons_zero, List.set_cons_succ]; done) | (simp only [putAll, Act.put, List.setIfInBounds_toArray, List.set_cons_zero, List.set_cons_succ]; rfl)) (hJ6_12_18 (ga, gb, p3_6_12.heap.size) _ ⟨⟨below_alloc HB.out _, blk_alloc B1.out _, blk_alloc B2.out _, blk_alloc B4.out _⟩, Kd.C_alloc BA.out _, Kd.C_alloc BB.out _, C_two_si p3_6_12 HC3.out (Kd.C_below HR3.out HB.out) HC6.out (Kd.C_below HR6.out HB.out)⟩)
                                          · skip
                                            refine value_ (w1 := ?_) (v := ?_) (by rfl) rfl ?_ ?_
                                            rotate_left 2
                                            · go_simp
                                              constructor
                                              · rfl
                                              · rfl
                                            refine hK.out _ _ (held7 ha_ hb_ (blk_alloc B1.out _) (blk_alloc B2.out _)) (fun hHeld => ?_)
                                            clear hK K
                                            refine norm_ (a' := ?_) ?_ ?_
                                            rotate_left
                                            · show Act.put _ (some 8) _ = _
                                              simp only [Act.put, List.setIfInBounds_toArray, List.set_cons_zero, List.set_cons_succ, i64_w, i32_w]
                                              rfl
                                            exact norm_ (by first | (simp only [putAll, Act.put, List.setIfInBounds_toArray, List.set_cons_zero, List.set_cons_succ]; done) | (simp only [putAll, Act.put, List.setIfInBounds_toArray, List.set_cons_zero, List.set_cons_succ]; rfl)) (hJ6_12_21 (ga, gb, p3_6_12.heap.size) _ ⟨⟨below_alloc HB.out _, blk_alloc B1.out _, blk_alloc B2.out _, blk_alloc B4.out _⟩, Kd.C_alloc BA.out _, Kd.C_alloc BB.out _, blk_new p3_6_12 _, Nat.ne_of_lt (blk_lt B1.out), Nat.ne_of_lt (blk_lt B2.out), Nat.ne_of_lt (blk_lt B4.out), below_size HB.out⟩)
                                      · skip
                                        rintro ⟨ga, ⟨Avk, cvk⟩⟩ p3_6_7 ⟨⟨h0_, h1_, h2_, h3_⟩, h4_⟩
                                        have HB : Aside0 (Below w.heap.size w p3_6_7) := ⟨h0_⟩
                                        have B1 : Aside0 (Bk p3_6_7 g1 a_) := ⟨h1_⟩
                                        have B2 : Aside0 (Bk p3_6_7 g2 b_) := ⟨h2_⟩
                                        have B4 : Aside0 (Bk p3_6_7 g4 Z4) := ⟨h3_⟩
                                        have HK : Aside0 (RS w p3_6_7 (.slice Avk ks_.length cvk) ks_) := ⟨h4_⟩
                                        have hHeld := held7 ha_ hb_ (B1.out) (B2.out)
                                        refine norm_ (a' := ?_) ?_ ?_
                                        rotate_left
                                        · simp only [putAll, Act.put, List.setIfInBounds_toArray, List.set_cons_zero, List.set_cons_succ]
                                          rfl
                                        refine three_ (i := 12) (j := 18) (k := 21) (Ni := some 37) (Nj := some 43) (Nk := some 8) #[true, true, true, true, true, true, true, true, true, true, true, true, true, false, true, true, true, true, false, false, false, false, false] #[true, true, true, true, true, true, true, true, true, true, true, true, false, false, true, true, true, true, true, false, false, false, false] #[true, true, true, true, true, true, true, true, true, true, true, true, false, false, true, true, true, true, false, false, false, true, false] rfl rfl rfl rfl rfl rfl (by kernel_rfl) (by decide) (by decide) (by decide) (fun K hK => ?_) (fun K hK => ?_) (fun K hK => ?_)
                                        · skip
                                          refine value_ (w1 := ?_) (v := ?_) (by rfl) rfl ?_ ?_
                                          rotate_left 2
                                          · go_simp
                                            constructor
                                            · rfl
                                            · rfl
                                          refine hK.out _ _ (held7 ha_ hb_ (blk_alloc B1.out _) (blk_alloc B2.out _)) (fun hHeld => ?_)
                                          clear hK K
                                          refine norm_ (a' := ?_) ?_ ?_
                                          rotate_left
                                          · show Act.put _ (some 37) _ = _
                                            simp only [Act.put, List.setIfInBounds_toArray, List.set_cons_zero, List.set_cons_succ, i64_w, i32_w]
                                            rfl
                                          exact norm_ (by first | (simp only [putAll, Act.put, List.setIfInBounds_toArray, List.set_cons_zero, List.set_cons_succ]; done) | (simp only [putAll, Act.put, List.setIfInBounds_toArray, List.set_cons_zero, List.set_cons_succ]; rfl)) (hJ6_7_12 (ga, (Avk, cvk), p3_6_7.heap.size) _ ⟨⟨below_alloc HB.out _, blk_alloc B1.out _, blk_alloc B2.out _, blk_alloc B4.out _⟩, Kd.R_alloc HK.out _, C_two_ss p3_6_7 HC2.out (Kd.C_below HR2.out HB.out) HC5.out (Kd.C_below HR5.out HB.out)⟩)
                                        · skip
                                          refine value_ (w1 := ?_) (v := ?_) (by rfl) rfl ?_ ?_
                                          rotate_left 2
                                          · go_simp
                                            constructor
                                            · rfl
                                            · rfl
                                          refine hK.out _ _ (held7 ha_ hb_ (blk_alloc B1.out _) (blk_alloc B2.out _)) (fun hHeld => ?_)
                                          clear hK K
                                          refine norm_ (a' := ?_) ?_ ?_
                                          rotate_left
                                          · show Act.put _ (some 43) _ = _
                                            simp only [Act.put, List.setIfInBounds_toArray, List.set_cons_zero, List.set_cons_succ, i64_w, i32_w]
                                            rfl
                                          exact norm_ (by first | (simp only [putAll, Act.put, List.setIfInBounds_toArray, List.set_cons_zero, List.set_cons_succ]; done) | (simp only [putAll, Act.put, List.setIfInBounds_toArray, List.set_cons_zero, List.set_cons_succ]; rfl)) (hJ6_7_18 (ga, (Avk, cvk), p3_6_7.heap.size) _ ⟨⟨below_alloc HB.out _, blk_alloc B1.out _, blk_alloc B2.out _, blk_alloc B4.out _⟩, Kd.R_alloc HK.out _, C_two_si p3_6_7 HC3.out (Kd.C_below HR3.out HB.out) HC6.out (Kd.C_below HR6.out HB.out)⟩)
                                        · skip
                                          refine value_ (w1 := ?_) (v := ?_) (by rfl) rfl ?_ ?_
                                          rotate_left 2
                                          · go_simp
                                            constructor
                                            · rfl
                                            · rfl
                                          refine hK.out _ _ (held7 ha_ hb_ (blk_alloc B1.out _) (blk_alloc B2.out _)) (fun hHeld => ?_)
                                          clear hK K
                                          refine norm_ (a' := ?_) ?_ ?_
                                          rotate_left
                                          · show Act.put _ (some 8) _ = _
                                            simp only [Act.put, List.setIfInBounds_toArray, List.set_cons_zero, List.set_cons_succ, i64_w, i32_w]
                                            rfl
                                          exact norm_ (by first | (simp only [putAll, Act.put, List.setIfInBounds_toArray, List.set_cons_zero, List.set_cons_succ]; done) | (simp only [putAll, Act.put, List.setIfInBounds_toArray, List.set_cons_zero, List.set_cons_succ]; rfl)) (hJ6_7_21 (ga, (Avk, cvk), p3_6_7.heap.size) _ ⟨⟨below_alloc HB.out _, blk_alloc B1.out _, blk_alloc B2.out _, blk_alloc B4.out _⟩, Kd.R_alloc HK.out _, blk_new p3_6_7 _, Nat.ne_of_lt (blk_lt B1.out), Nat.ne_of_lt (blk_lt B2.out), Nat.ne_of_lt (blk_lt B4.out), below_size HB.out⟩)
                                    · skip
                                      rintro ⟨gb, gc, g7⟩ p3_12_18_21 ⟨⟨h0_, h1_, h2_, h3_⟩, h4_, h5_, h6_, h7_, h8_, h9_, h10_⟩
                                      have HB : Aside0 (Below w.heap.size w p3_12_18_21) := ⟨h0_⟩
                                      have B1 : Aside0 (Bk p3_12_18_21 g1 a_) := ⟨h1_⟩
                                      have B2 : Aside0 (Bk p3_12_18_21 g2 b_) := ⟨h2_⟩
                                      have B4 : Aside0 (Bk p3_12_18_21 g4 Z4) := ⟨h3_⟩
                                      have BB : Aside0 (CS p3_12_18_21 gb [Vs, Us]) := ⟨h4_⟩
                                      have BC : Aside0 (CI p3_12_18_21 gc [Cs, Ds]) := ⟨h5_⟩
                                      have B7 : Aside0 (Bk p3_12_18_21 g7 Z4) := ⟨h6_⟩
                                      have NE1 : Aside0 (g1 ≠ g7) := ⟨h7_⟩
                                      have NE2 : Aside0 (g2 ≠ g7) := ⟨h8_⟩
                                      have NE4 : Aside0 (g4 ≠ g7) := ⟨h9_⟩
                                      have G7 : Aside0 (w.heap.size ≤ g7) := ⟨h10_⟩
                                      have hHeld := held7 ha_ hb_ (B1.out) (B2.out)
                                      refine norm_ (a' := ?_) ?_ ?_
                                      rotate_left
                                      · simp only [putAll, Act.put, List.setIfInBounds_toArray, List.set_cons_zero, List.set_cons_succ]
                                        rfl
                                      refine one_ (i := 6) (N := some 31) #[true, true, true, true, true, true, true, false, true, true, true, true, true, false, true, true, true, true, true, false, false, true, false] rfl rfl (by kernel_rfl) (by decide) (fun K hK => ?_)
                                      refine value_ (w1 := ?_) (v := ?_) (by rfl) rfl ?_ ?_
                                      rotate_left 2
                                      · go_simp
                                        constructor
                                        · rfl
                                        · rfl
                                      refine hK.out _ _ (held7 ha_ hb_ (blk_alloc B1.out _) (blk_alloc B2.out _)) (fun hHeld => ?_)
                                      clear hK K
                                      refine norm_ (a' := ?_) ?_ ?_
                                      rotate_left
                                      · show Act.put _ (some 31) _ = _
                                        simp only [Act.put, List.setIfInBounds_toArray, List.set_cons_zero, List.set_cons_succ, i64_w, i32_w]
                                        rfl
                                      exact norm_ (by first | (simp only [putAll, Act.put, List.setIfInBounds_toArray, List.set_cons_zero, List.set_cons_succ]; done) | (simp only [putAll, Act.put, List.setIfInBounds_toArray, List.set_cons_zero, List.set_cons_succ]; rfl)) (hJ6_12_18_21 (p3_12_18_21.heap.size, gb, gc, g7) _ ⟨⟨below_alloc HB.out _, blk_alloc B1.out _, blk_alloc B2.out _, blk_alloc B4.out _⟩, C_two_ss p3_12_18_21 HC1.out (Kd.C_below HR1.out HB.out) HC4.out (Kd.C_below HR4.out HB.out), Kd.C_alloc BB.out _, Kd.C_alloc BC.out _, blk_alloc B7.out _, NE1.out, NE2.out, NE4.out, G7.out⟩)
                                  · skip
                                    rintro ⟨ga, gc, g7⟩ p3_6_18_21 ⟨⟨h0_, h1_, h2_, h3_⟩, h4_, h5_, h6_, h7_, h8_, h9_, h10_⟩
                                    have HB : Aside0 (Below w.heap.size w p3_6_18_21) := ⟨h0_⟩
                                    have B1 : Aside0 (Bk p3_6_18_21 g1 a_) := ⟨h1_⟩
                                    have B2 : Aside0 (Bk p3_6_18_21 g2 b_) := ⟨h2_⟩
                                    have B4 : Aside0 (Bk p3_6_18_21 g4 Z4) := ⟨h3_⟩
                                    have BA : Aside0 (CS p3_6_18_21 ga [Ks, Ls]) := ⟨h4_⟩
                                    have BC : Aside0 (CI p3_6_18_21 gc [Cs, Ds]) := ⟨h5_⟩
                                    have B7 : Aside0 (Bk p3_6_18_21 g7 Z4) := ⟨h6_⟩
                                    have NE1 : Aside0 (g1 ≠ g7) := ⟨h7_⟩
                                    have NE2 : Aside0 (g2 ≠ g7) := ⟨h8_⟩
                                    have NE4 : Aside0 (g4 ≠ g7) := ⟨h9_⟩
                                    have G7 : Aside0 (w.heap.size ≤ g7) := ⟨h10_⟩
                                    have hHeld := held7 ha_ hb_ (B1.out) (B2.out)
                                    refine norm_ (a' := ?_) ?_ ?_
                                    rotate_left
                                    · simp only [putAll, Act.put, List.setIfInBounds_toArray, List.set_cons_zero, List.set_cons_succ]
                                      rfl
                                    refine two_ (i := 7) (j := 12) (Ni := some 32) (Nj := some 37) #[true, true, true, true, true, true, true, true, true, true, true, true, false, false, true, true, true, true, true, false, false, true, false] #[true, true, true, true, true, true, true, false, true, true, true, true, true, false, true, true, true, true, true, false, false, true, false] rfl rfl rfl rfl (by kernel_rfl) (by decide) (by decide) (fun K hK => ?_) (fun K hK => ?_)
                                    · skip
                                      refine goes_ Try.func36 (by kernel_rfl) rfl #[.slice (some ⟨ga, 0, none⟩) ([Ks, Ls] : List _).length 2] (by rfl) rfl rfl (by simp only [List.map_toArray, List.map_cons, List.map_nil]; rfl) ?_
                                      with_reducible refine (node_rows_string.calls k _ 2 [Ks, Ls] ks_ _ BA.out (Nat.le_refl _) T1.out).mono ?_
                                      rintro e wc_ ⟨vk, rfl, ho_, hb⟩
                                      refine ⟨_, rfl, ?_⟩
                                      obtain ⟨Avk, cvk, e_⟩ := Kd.R_slice ho_
                                      subst e_
                                      have HK := Aside0.mk (Kd.R_lower ho_ (below_size HB.out))
                                      have B1 := Aside0.mk (blk_below B1.out hb)
                                      have B2 := Aside0.mk (blk_below B2.out hb)
                                      have B4 := Aside0.mk (blk_below B4.out hb)
                                      have BC := Aside0.mk (Kd.C_below BC.out hb)
                                      have B7 := Aside0.mk (blk_below B7.out hb)
                                      have HB := Aside0.mk (below_step HB.out hb)
                                      clear ho_ hb
                                      refine hK.out _ _ (held7 ha_ hb_ (B1.out) (B2.out)) (fun hHeld => ?_)
                                      clear hK K
                                      refine norm_ (a' := ?_) ?_ ?_
                                      rotate_left
                                      · show Act.put _ (some 32) _ = _
                                        simp only [Act.put, List.setIfInBounds_toArray, List.set_cons_zero, List.set_cons_succ, i64_w, i32_w]
                                        rfl
                                      exact norm_ (by first | (simp only [putAll, Act.put, List.setIfInBounds_toArray, List.set_cons_zero, List.set_cons_succ]; done) | (simp only [putAll, Act.put, List.setIfInBounds_toArray, List.set_cons_zero, List.set_cons_succ]; rfl)) (hJ6_7_18_21 (ga, (Avk, cvk), gc, g7) _ ⟨⟨HB.out, B1.out, B2.out, B4.out⟩, HK.out, BC.out, B7.out, NE1.out, NE2.out, NE4.out, G7.out⟩)
                                    · skip
                                      refine value_ (w1 := ?_) (v := ?_) (by rfl) rfl ?_ ?_
                                      rotate_left 2
                                      · go_simp
                                        constructor
                                        · rfl
                                        · rfl
                                      refine hK.out _ _ (held7 ha_ hb_ (blk_alloc B1.out _) (blk_alloc B2.out _)) (fun hHeld => ?_)
                                      clear hK K
                                      refine norm_ (a' := ?_) ?_ ?_
                                      rotate_left
                                      · show Act.put _ (some 37) _ = _
                                        simp only [Act.put, List.setIfInBounds_toArray, List.set_cons_zero, List.set_cons_succ, i64_w, i32_w]
                                        rfl
                                      exact norm_ (by first | (simp only [putAll, Act.put, List.setIfInBounds_toArray, List.set_cons_zero, List.set_cons_succ]; done) | (simp only [putAll, Act.put, List.setIfInBounds_toArray, List.set_cons_zero, List.set_cons_succ]; rfl)) (hJ6_12_18_21 (ga, p3_6_18_21.heap.size, gc, g7) _ ⟨⟨below_alloc HB.out _, blk_alloc B1.out _, blk_alloc B2.out _, blk_alloc B4.out _⟩, Kd.C_alloc BA.out _, C_two_ss p3_6_18_21 HC2.out (Kd.C_below HR2.out HB.out) HC5.out (Kd.C_below HR5.out HB.out), Kd.C_alloc BC.out _, blk_alloc B7.out _, NE1.out, NE2.out, NE4.out, G7.out⟩)
                                · skip
                                  rintro ⟨ga, gb, g7⟩ p3_6_12_21 ⟨⟨h0_, h1_, h2_, h3_⟩, h4_, h5_, h6_, h7_, h8_, h9_, h10_⟩
                                  have HB : Aside0 (Below w.heap.size w p3_6_12_21) := ⟨h0_⟩
                                  have B1 : Aside0 (Bk p3_6_12_21 g1 a_) := ⟨h1_⟩
                                  have B2 : Aside0 (Bk p3_6_12_21 g2 b_) := ⟨h2_⟩
                                  have B4 : Aside0 (Bk p3_6_12_21 g4 Z4) := ⟨h3_⟩
                                  have BA : Aside0 (CS p3_6_12_21 ga [Ks, Ls]) := ⟨h4_⟩
                                  have BB : Aside0 (CS p3_6_12_21 gb [Vs, Us]) := ⟨h5_⟩
                                  have B7 : Aside0 (Bk p3_6_12_21 g7 Z4) := ⟨h6_⟩
                                  have NE1 : Aside0 (g1 ≠ g7) := ⟨h7_⟩
                                  have NE2 : Aside0 (g2 ≠ g7) := ⟨h8_⟩
                                  have NE4 : Aside0 (g4 ≠ g7) := ⟨h9_⟩
                                  have G7 : Aside0 (w.heap.size ≤ g7) := ⟨h10_⟩
                                  have hHeld := held7 ha_ hb_ (B1.out) (B2.out)
                                  refine norm_ (a' := ?_) ?_ ?_
                                  rotate_left
                                  · simp only [putAll, Act.put, List.setIfInBounds_toArray, List.set_cons_zero, List.set_cons_succ]
                                    rfl
                                  refine two_ (i := 7) (j := 18) (Ni := some 32) (Nj := some 43) #[true, true, true, true, true, true, true, true, true, true, true, true, true, false, true, true, true, true, false, false, false, true, false] #[true, true, true, true, true, true, true, false, true, true, true, true, true, false, true, true, true, true, true, false, false, true, false] rfl rfl rfl rfl (by kernel_rfl) (by decide) (by decide) (fun K hK => ?_) (fun K hK => ?_)
                                  · skip
                                    refine goes_ Try.func36 (by kernel_rfl) rfl #[.slice (some ⟨ga, 0, none⟩) ([Ks, Ls] : List _).length 2] (by rfl) rfl rfl (by simp only [List.map_toArray, List.map_cons, List.map_nil]; rfl) ?_
                                    with_reducible refine (node_rows_string.calls k _ 2 [Ks, Ls] ks_ _ BA.out (Nat.le_refl _) T1.out).mono ?_
                                    rintro e wc_ ⟨vk, rfl, ho_, hb⟩
                                    refine ⟨_, rfl, ?_⟩
                                    obtain ⟨Avk, cvk, e_⟩ := Kd.R_slice ho_
                                    subst e_
                                    have HK := Aside0.mk (Kd.R_lower ho_ (below_size HB.out))
                                    have B1 := Aside0.mk (blk_below B1.out hb)
                                    have B2 := Aside0.mk (blk_below B2.out hb)
                                    have B4 := Aside0.mk (blk_below B4.out hb)
                                    have BB := Aside0.mk (Kd.C_below BB.out hb)
                                    have B7 := Aside0.mk (blk_below B7.out hb)
                                    have HB := Aside0.mk (below_step HB.out hb)
                                    clear ho_ hb
                                    refine hK.out _ _ (held7 ha_ hb_ (B1.out) (B2.out)) (fun hHeld => ?_)
                                    clear hK K
                                    refine norm_ (a' := ?_) ?_ ?_
                                    rotate_left
                                    · show Act.put _ (some 32) _ = _
                                      simp only [Act.put, List.setIfInBounds_toArray, List.set_cons_zero, List.set_cons_succ, i64_w, i32_w]
                                      rfl
                                    exact norm_ (by first | (simp only [putAll, Act.put, List.setIfInBounds_toArray, List.set_cons_zero, List.set_cons_succ]; done) | (simp only [putAll, Act.put, List.setIfInBounds_toArray, List.set_cons_zero, List.set_cons_succ]; rfl)) (hJ6_7_12_21 (ga, (Avk, cvk), gb, g7) _ ⟨⟨HB.out, B1.out, B2.out, B4.out⟩, HK.out, BB.out, B7.out, NE1.out, NE2.out, NE4.out, G7.out⟩)
                                  · skip
                                    refine value_ (w1 := ?_) (v := ?_) (by rfl) rfl ?_ ?_
                                    rotate_left 2
                                    · go_simp
                                      constructor
                                      · rfl
                                      · rfl
                                    refine hK.out _ _ (held7 ha_ hb_ (blk_alloc B1.out _) (blk_alloc B2.out _)) (fun hHeld => ?_)
                                    clear hK K
                                    refine norm_ (a' := ?_) ?_ ?_
                                    rotate_left
                                    · show Act.put _ (some 43) _ = _
                                      simp only [Act.put, List.setIfInBounds_toArray, List.set_cons_zero, List.set_cons_succ, i64_w, i32_w]
                                      rfl
                                    exact norm_ (by first | (simp only [putAll, Act.put, List.setIfInBounds_toArray, List.set_cons_zero, List.set_cons_succ]; done) | (simp only [putAll, Act.put, List.setIfInBounds_toArray, List.set_cons_zero, List.set_cons_succ]; rfl)) (hJ6_12_18_21 (ga, gb, p3_6_12_21.heap.size, g7) _ ⟨⟨below_alloc HB.out _, blk_alloc B1.out _, blk_alloc B2.out _, blk_alloc B4.out _⟩, Kd.C_alloc BA.out _, Kd.C_alloc BB.out _, C_two_si p3_6_12_21 HC3.out (Kd.C_below HR3.out HB.out) HC6.out (Kd.C_below HR6.out HB.out), blk_alloc B7.out _, NE1.out, NE2.out, NE4.out, G7.out⟩)
                              · skip
                                rintro ⟨ga, gb, gc⟩ p3_6_12_18 ⟨⟨h0_, h1_, h2_, h3_⟩, h4_, h5_, h6_⟩
                                have HB : Aside0 (Below w.heap.size w p3_6_12_18) := ⟨h0_⟩
                                have B1 : Aside0 (Bk p3_6_12_18 g1 a_) := ⟨h1_⟩
                                have B2 : Aside0 (Bk p3_6_12_18 g2 b_) := ⟨h2_⟩
                                have B4 : Aside0 (Bk p3_6_12_18 g4 Z4) := ⟨h3_⟩
                                have BA : Aside0 (CS p3_6_12_18 ga [Ks, Ls]) := ⟨h4_⟩
                                have BB : Aside0 (CS p3_6_12_18 gb [Vs, Us]) := ⟨h5_⟩
                                have BC : Aside0 (CI p3_6_12_18 gc [Cs, Ds]) := ⟨h6_⟩
                                have hHeld := held7 ha_ hb_ (B1.out) (B2.out)
                                refine norm_ (a' := ?_) ?_ ?_
                                rotate_left
                                · simp only [putAll, Act.put, List.setIfInBounds_toArray, List.set_cons_zero, List.set_cons_succ]
                                  rfl
                                refine two_ (i := 7) (j := 21) (Ni := some 32) (Nj := some 8) #[true, true, true, true, true, true, true, true, true, true, true, true, true, false, true, true, true, true, true, false, false, false, false] #[true, true, true, true, true, true, true, false, true, true, true, true, true, false, true, true, true, true, true, false, false, true, false] rfl rfl rfl rfl (by kernel_rfl) (by decide) (by decide) (fun K hK => ?_) (fun K hK => ?_)
                                · skip
                                  refine goes_ Try.func36 (by kernel_rfl) rfl #[.slice (some ⟨ga, 0, none⟩) ([Ks, Ls] : List _).length 2] (by rfl) rfl rfl (by simp only [List.map_toArray, List.map_cons, List.map_nil]; rfl) ?_
                                  with_reducible refine (node_rows_string.calls k _ 2 [Ks, Ls] ks_ _ BA.out (Nat.le_refl _) T1.out).mono ?_
                                  rintro e wc_ ⟨vk, rfl, ho_, hb⟩
                                  refine ⟨_, rfl, ?_⟩
                                  obtain ⟨Avk, cvk, e_⟩ := Kd.R_slice ho_
                                  subst e_
                                  have HK := Aside0.mk (Kd.R_lower ho_ (below_size HB.out))
                                  have B1 := Aside0.mk (blk_below B1.out hb)
                                  have B2 := Aside0.mk (blk_below B2.out hb)
                                  have B4 := Aside0.mk (blk_below B4.out hb)
                                  have BB := Aside0.mk (Kd.C_below BB.out hb)
                                  have BC := Aside0.mk (Kd.C_below BC.out hb)
                                  have HB := Aside0.mk (below_step HB.out hb)
                                  clear ho_ hb
                                  refine hK.out _ _ (held7 ha_ hb_ (B1.out) (B2.out)) (fun hHeld => ?_)
                                  clear hK K
                                  refine norm_ (a' := ?_) ?_ ?_
                                  rotate_left
                                  · show Act.put _ (some 32) _ = _
                                    simp only [Act.put, List.setIfInBounds_toArray, List.set_cons_zero, List.set_cons_succ, i64_w, i32_w]
                                    rfl
                                  exact norm_ (by first | (simp only [putAll, Act.put, List.setIfInBounds_toArray, List.set_cons_zero, List.set_cons_succ]; done) | (simp only [putAll, Act.put, List.setIfInBounds_toArray, List.set_cons_zero, List.set_cons_succ]; rfl)) (hJ6_7_12_18 (ga, (Avk, cvk), gb, gc) _ ⟨⟨HB.out, B1.out, B2.out, B4.out⟩, HK.out, BB.out, BC.out⟩)
                                · skip
                                  refine value_ (w1 := ?_) (v := ?_) (by rfl) rfl ?_ ?_
                                  rotate_left 2
                                  · go_simp
                                    constructor
                                    · rfl
                                    · rfl
                                  refine hK.out _ _ (held7 ha_ hb_ (blk_alloc B1.out _) (blk_alloc B2.out _)) (fun hHeld => ?_)
                                  clear hK K
                                  refine norm_ (a' := ?_) ?_ ?_
                                  rotate_left
                                  · show Act.put _ (some 8) _ = _
                                    simp only [Act.put, List.setIfInBounds_toArray, List.set_cons_zero, List.set_cons_succ, i64_w, i32_w]
                                    rfl
                                  exact norm_ (by first | (simp only [putAll, Act.put, List.setIfInBounds_toArray, List.set_cons_zero, List.set_cons_succ]; done) | (simp only [putAll, Act.put, List.setIfInBounds_toArray, List.set_cons_zero, List.set_cons_succ]; rfl)) (hJ6_12_18_21 (ga, gb, gc, p3_6_12_18.heap.size) _ ⟨⟨below_alloc HB.out _, blk_alloc B1.out _, blk_alloc B2.out _, blk_alloc B4.out _⟩, Kd.C_alloc BA.out _, Kd.C_alloc BB.out _, Kd.C_alloc BC.out _, blk_new p3_6_12_18 _, Nat.ne_of_lt (blk_lt B1.out), Nat.ne_of_lt (blk_lt B2.out), Nat.ne_of_lt (blk_lt B4.out), below_size HB.out⟩)
                            · skip
                              rintro ⟨ga, ⟨Avk, cvk⟩, g7⟩ p3_6_7_21 ⟨⟨h0_, h1_, h2_, h3_⟩, h4_, h5_, h6_, h7_, h8_, h9_⟩
                              have HB : Aside0 (Below w.heap.size w p3_6_7_21) := ⟨h0_⟩
                              have B1 : Aside0 (Bk p3_6_7_21 g1 a_) := ⟨h1_⟩
                              have B2 : Aside0 (Bk p3_6_7_21 g2 b_) := ⟨h2_⟩
                              have B4 : Aside0 (Bk p3_6_7_21 g4 Z4) := ⟨h3_⟩
                              have HK : Aside0 (RS w p3_6_7_21 (.slice Avk ks_.length cvk) ks_) := ⟨h4_⟩
                              have B7 : Aside0 (Bk p3_6_7_21 g7 Z4) := ⟨h5_⟩
                              have NE1 : Aside0 (g1 ≠ g7) := ⟨h6_⟩
                              have NE2 : Aside0 (g2 ≠ g7) := ⟨h7_⟩
                              have NE4 : Aside0 (g4 ≠ g7) := ⟨h8_⟩
                              have G7 : Aside0 (w.heap.size ≤ g7) := ⟨h9_⟩
                              have hHeld := held7 ha_ hb_ (B1.out) (B2.out)
                              refine norm_ (a' := ?_) ?_ ?_
                              rotate_left
                              · simp only [putAll, Act.put, List.setIfInBounds_toArray, List.set_cons_zero, List.set_cons_succ]
                                rfl
                              refine two_ (i := 12) (j := 18) (Ni := some 37) (Nj := some 43) #[true, true, true, true, true, true, true, true, true, true, true, true, true, false, true, true, true, true, false, false, false, true, false] #[true, true, true, true, true, true, true, true, true, true, true, true, false, false, true, true, true, true, true, false, false, true, false] rfl rfl rfl rfl (by kernel_rfl) (by decide) (by decide) (fun K hK => ?_) (fun K hK => ?_)
                              · skip
                                refine value_ (w1 := ?_) (v := ?_) (by rfl) rfl ?_ ?_
                                rotate_left 2
                                · go_simp
                                  constructor
                                  · rfl
                                  · rfl
                                refine hK.out _ _ (held7 ha_ hb_ (blk_alloc B1.out _) (blk_alloc B2.out _)) (fun hHeld => ?_)
                                clear hK K
                                refine norm_ (a' := ?_) ?_ ?_
                                rotate_left
                                · show Act.put _ (some 37) _ = _
                                  simp only [Act.put, List.setIfInBounds_toArray, List.set_cons_zero, List.set_cons_succ, i64_w, i32_w]
                                  rfl
                                exact norm_ (by first | (simp only [putAll, Act.put, List.setIfInBounds_toArray, List.set_cons_zero, List.set_cons_succ]; done) | (simp only [putAll, Act.put, List.setIfInBounds_toArray, List.set_cons_zero, List.set_cons_succ]; rfl)) (hJ6_7_12_21 (ga, (Avk, cvk), p3_6_7_21.heap.size, g7) _ ⟨⟨below_alloc HB.out _, blk_alloc B1.out _, blk_alloc B2.out _, blk_alloc B4.out _⟩, Kd.R_alloc HK.out _, C_two_ss p3_6_7_21 HC2.out (Kd.C_below HR2.out HB.out) HC5.out (Kd.C_below HR5.out HB.out), blk_alloc B7.out _, NE1.out, NE2.out, NE4.out, G7.out⟩)
                              · skip
                                refine value_ (w1 := ?_) (v := ?_) (by rfl) rfl ?_ ?_
                                rotate_left 2
                                · go_simp
                                  constructor
                                  · rfl
                                  · rfl
                                refine hK.out _ _ (held7 ha_ hb_ (blk_alloc B1.out _) (blk_alloc B2.out _)) (fun hHeld => ?_)
                                clear hK K
                                refine norm_ (a' := ?_) ?_ ?_
                                rotate_left
                                · show Act.put _ (some 43) _ = _
                                  simp only [Act.put, List.setIfInBounds_toArray, List.set_cons_zero, List.set_cons_succ, i64_w, i32_w]
                                  rfl
                                exact norm_ (by first | (simp only [putAll, Act.put, List.setIfInBounds_toArray, List.set_cons_zero, List.set_cons_succ]; done) | (simp only [putAll, Act.put, List.setIfInBounds_toArray, List.set_cons_zero, List.set_cons_succ]; rfl)) (hJ6_7_18_21 (ga, (Avk, cvk), p3_6_7_21.heap.size, g7) _ ⟨⟨below_alloc HB.out _, blk_alloc B1.out _, blk_alloc B2.out _, blk_alloc B4.out _⟩, Kd.R_alloc HK.out _, C_two_si p3_6_7_21 HC3.out (Kd.C_below HR3.out HB.out) HC6.out (Kd.C_below HR6.out HB.out), blk_alloc B7.out _, NE1.out, NE2.out, NE4.out, G7.out⟩)
                          · skip
                            rintro ⟨ga, ⟨Avk, cvk⟩, gc⟩ p3_6_7_18 ⟨⟨h0_, h1_, h2_, h3_⟩, h4_, h5_⟩
                            have HB : Aside0 (Below w.heap.size w p3_6_7_18) := ⟨h0_⟩
                            have B1 : Aside0 (Bk p3_6_7_18 g1 a_) := ⟨h1_⟩
                            have B2 : Aside0 (Bk p3_6_7_18 g2 b_) := ⟨h2_⟩
                            have B4 : Aside0 (Bk p3_6_7_18 g4 Z4) := ⟨h3_⟩
                            have HK : Aside0 (RS w p3_6_7_18 (.slice Avk ks_.length cvk) ks_) := ⟨h4_⟩
                            have BC : Aside0 (CI p3_6_7_18 gc [Cs, Ds]) := ⟨h5_⟩
                            have hHeld := held7 ha_ hb_ (B1.out) (B2.out)
                            refine norm_ (a' := ?_) ?_ ?_
                            rotate_left
                            · simp only [putAll, Act.put, List.setIfInBounds_toArray, List.set_cons_zero, List.set_cons_succ]
                              rfl
                            refine two_ (i := 12) (j := 21) (Ni := some 37) (Nj := some 8) #[true, true, true, true, true, true, true, true, true, true, true, true, true, false, true, true, true, true, true, false, false, false, false] #[true, true, true, true, true, true, true, true, true, true, true, true, false, false, true, true, true, true, true, false, false, true, false] rfl rfl rfl rfl (by kernel_rfl) (by decide) (by decide) (fun K hK => ?_) (fun K hK => ?_)
                            · skip
                              refine value_ (w1 := ?_) (v := ?_) (by rfl) rfl ?_ ?_
                              rotate_left 2
                              · go_simp
                                constructor
                                · rfl
                                · rfl
                              refine hK.out _ _ (held7 ha_ hb_ (blk_alloc B1.out _) (blk_alloc B2.out _)) (fun hHeld => ?_)
                              clear hK K
                              refine norm_ (a' := ?_) ?_ ?_
                              rotate_left
                              · show Act.put _ (some 37) _ = _
                                simp only [Act.put, List.setIfInBounds_toArray, List.set_cons_zero, List.set_cons_succ, i64_w, i32_w]
                                rfl
                              exact norm_ (by first | (simp only [putAll, Act.put, List.setIfInBounds_toArray, List.set_cons_zero, List.set_cons_succ]; done) | (simp only [putAll, Act.put, List.setIfInBounds_toArray, List.set_cons_zero, List.set_cons_succ]; rfl)) (hJ6_7_12_18 (ga, (Avk, cvk), p3_6_7_18.heap.size, gc) _ ⟨⟨below_alloc HB.out _, blk_alloc B1.out _, blk_alloc B2.out _, blk_alloc B4.out _⟩, Kd.R_alloc HK.out _, C_two_ss p3_6_7_18 HC2.out (Kd.C_below HR2.out HB.out) HC5.out (Kd.C_below HR5.out HB.out), Kd.C_alloc BC.out _⟩)
                            · skip
                              refine value_ (w1 := ?_) (v := ?_) (by rfl) rfl ?_ ?_
                              rotate_left 2
                              · go_simp
                                constructor
                                · rfl
                                · rfl
                              refine hK.out _ _ (held7 ha_ hb_ (blk_alloc B1.out _) (blk_alloc B2.out _)) (fun hHeld => ?_)
                              clear hK K
                              refine norm_ (a' := ?_) ?_ ?_
                              rotate_left
                              · show Act.put _ (some 8) _ = _
                                simp only [Act.put, List.setIfInBounds_toArray, List.set_cons_zero, List.set_cons_succ, i64_w, i32_w]
                                rfl
                              exact norm_ (by first | (simp only [putAll, Act.put, List.setIfInBounds_toArray, List.set_cons_zero, List.set_cons_succ]; done) | (simp only [putAll, Act.put, List.setIfInBounds_toArray, List.set_cons_zero, List.set_cons_succ]; rfl)) (hJ6_7_18_21 (ga, (Avk, cvk), gc, p3_6_7_18.heap.size) _ ⟨⟨below_alloc HB.out _, blk_alloc B1.out _, blk_alloc B2.out _, blk_alloc B4.out _⟩, Kd.R_alloc HK.out _, Kd.C_alloc BC.out _, blk_new p3_6_7_18 _, Nat.ne_of_lt (blk_lt B1.out), Nat.ne_of_lt (blk_lt B2.out), Nat.ne_of_lt (blk_lt B4.out), below_size HB.out⟩)
                        · skip
                          rintro ⟨ga, ⟨Avk, cvk⟩, gb⟩ p3_6_7_12 ⟨⟨h0_, h1_, h2_, h3_⟩, h4_, h5_⟩
                          have HB : Aside0 (Below w.heap.size w p3_6_7_12) := ⟨h0_⟩
                          have B1 : Aside0 (Bk p3_6_7_12 g1 a_) := ⟨h1_⟩
                          have B2 : Aside0 (Bk p3_6_7_12 g2 b_) := ⟨h2_⟩
                          have B4 : Aside0 (Bk p3_6_7_12 g4 Z4) := ⟨h3_⟩
                          have HK : Aside0 (RS w p3_6_7_12 (.slice Avk ks_.length cvk) ks_) := ⟨h4_⟩
                          have BB : Aside0 (CS p3_6_7_12 gb [Vs, Us]) := ⟨h5_⟩
                          have hHeld := held7 ha_ hb_ (B1.out) (B2.out)
                          refine norm_ (a' := ?_) ?_ ?_
                          rotate_left
                          · simp only [putAll, Act.put, List.setIfInBounds_toArray, List.set_cons_zero, List.set_cons_succ]
                            rfl
                          refine three_ (i := 13) (j := 18) (k := 21) (Ni := some 38) (Nj := some 43) (Nk := some 8) #[true, true, true, true, true, true, true, true, true, true, true, true, true, true, true, true, true, true, false, false, false, false, false] #[true, true, true, true, true, true, true, true, true, true, true, true, true, false, true, true, true, true, true, false, false, false, false] #[true, true, true, true, true, true, true, true, true, true, true, true, true, false, true, true, true, true, false, false, false, true, false] rfl rfl rfl rfl rfl rfl (by kernel_rfl) (by decide) (by decide) (by decide) (fun K hK => ?_) (fun K hK => ?_) (fun K hK => ?_)
                          · skip
                            refine goes_ Try.func36 (by kernel_rfl) rfl #[.slice (some ⟨gb, 0, none⟩) ([Vs, Us] : List _).length 2] (by rfl) rfl rfl (by simp only [List.map_toArray, List.map_cons, List.map_nil]; rfl) ?_
                            with_reducible refine (node_rows_string.calls k _ 2 [Vs, Us] vs_ _ BB.out (Nat.le_refl _) T2.out).mono ?_
                            rintro e wc_ ⟨vv, rfl, ho_, hb⟩
                            refine ⟨_, rfl, ?_⟩
                            obtain ⟨Avv, cvv, e_⟩ := Kd.R_slice ho_
                            subst e_
                            have HV := Aside0.mk (Kd.R_lower ho_ (below_size HB.out))
                            have B1 := Aside0.mk (blk_below B1.out hb)
                            have B2 := Aside0.mk (blk_below B2.out hb)
                            have B4 := Aside0.mk (blk_below B4.out hb)
                            have HK := Aside0.mk (Kd.R_below HK.out hb)
                            have HB := Aside0.mk (below_step HB.out hb)
                            clear ho_ hb
                            refine hK.out _ _ (held7 ha_ hb_ (B1.out) (B2.out)) (fun hHeld => ?_)
                            clear hK K
                            refine norm_ (a' := ?_) ?_ ?_
                            rotate_left
                            · show Act.put _ (some 38) _ = _
                              simp only [Act.put, List.setIfInBounds_toArray, List.set_cons_zero, List.set_cons_succ, i64_w, i32_w]
                              rfl
                            exact norm_ (by first | (simp only [putAll, Act.put, List.setIfInBounds_toArray, List.set_cons_zero, List.set_cons_succ]; done) | (simp only [putAll, Act.put, List.setIfInBounds_toArray, List.set_cons_zero, List.set_cons_succ]; rfl)) (hJ6_7_12_13 (ga, (Avk, cvk), gb, (Avv, cvv)) _ ⟨⟨HB.out, B1.out, B2.out, B4.out⟩, HK.out, HV.out⟩)
                          · skip
                            refine value_ (w1 := ?_) (v := ?_) (by rfl) rfl ?_ ?_
                            rotate_left 2
                            · go_simp
                              constructor
                              · rfl
                              · rfl
                            refine hK.out _ _ (held7 ha_ hb_ (blk_alloc B1.out _) (blk_alloc B2.out _)) (fun hHeld => ?_)
                            clear hK K
                            refine norm_ (a' := ?_) ?_ ?_
                            rotate_left
                            · show Act.put _ (some 43) _ = _
                              simp only [Act.put, List.setIfInBounds_toArray, List.set_cons_zero, List.set_cons_succ, i64_w, i32_w]
                              rfl
                            exact norm_ (by first | (simp only [putAll, Act.put, List.setIfInBounds_toArray, List.set_cons_zero, List.set_cons_succ]; done) | (simp only [putAll, Act.put, List.setIfInBounds_toArray, List.set_cons_zero, List.set_cons_succ]; rfl)) (hJ6_7_12_18 (ga, (Avk, cvk), gb, p3_6_7_12.heap.size) _ ⟨⟨below_alloc HB.out _, blk_alloc B1.out _, blk_alloc B2.out _, blk_alloc B4.out _⟩, Kd.R_alloc HK.out _, Kd.C_alloc BB.out _, C_two_si p3_6_7_12 HC3.out (Kd.C_below HR3.out HB.out) HC6.out (Kd.C_below HR6.out HB.out)⟩)
                          · skip
                            refine value_ (w1 := ?_) (v := ?_) (by rfl) rfl ?_ ?_
                            rotate_left 2
                            · go_simp
                              constructor
                              · rfl
                              · rfl
                            refine hK.out _ _ (held7 ha_ hb_ (blk_alloc B1.out _) (blk_alloc B2.out _)) (fun hHeld => ?_)
                            clear hK K
                            refine norm_ (a' := ?_) ?_ ?_
                            rotate_left
                            · show Act.put _ (some 8) _ = _
                              simp only [Act.put, List.setIfInBounds_toArray, List.set_cons_zero, List.set_cons_succ, i64_w, i32_w]
                              rfl
                            exact norm_ (by first | (simp only [putAll, Act.put, List.setIfInBounds_toArray, List.set_cons_zero, List.set_cons_succ]; done) | (simp only [putAll, Act.put, List.setIfInBounds_toArray, List.set_cons_zero, List.set_cons_succ]; rfl)) (hJ6_7_12_21 (ga, (Avk, cvk), gb, p3_6_7_12.heap.size) _ ⟨⟨below_alloc HB.out _, blk_alloc B1.out _, blk_alloc B2.out _, blk_alloc B4.out _⟩, Kd.R_alloc HK.out _, Kd.C_alloc BB.out _, blk_new p3_6_7_12 _, Nat.ne_of_lt (blk_lt B1.out), Nat.ne_of_lt (blk_lt B2.out), Nat.ne_of_lt (blk_lt B4.out), below_size HB.out⟩)
                      · skip
                        rintro ⟨ga, gb, gc, g7⟩ p3_6_12_18_21 ⟨⟨h0_, h1_, h2_, h3_⟩, h4_, h5_, h6_, h7_, h8_, h9_, h10_, h11_⟩
                        have HB : Aside0 (Below w.heap.size w p3_6_12_18_21) := ⟨h0_⟩
                        have B1 : Aside0 (Bk p3_6_12_18_21 g1 a_) := ⟨h1_⟩
                        have B2 : Aside0 (Bk p3_6_12_18_21 g2 b_) := ⟨h2_⟩
                        have B4 : Aside0 (Bk p3_6_12_18_21 g4 Z4) := ⟨h3_⟩
                        have BA : Aside0 (CS p3_6_12_18_21 ga [Ks, Ls]) := ⟨h4_⟩
                        have BB : Aside0 (CS p3_6_12_18_21 gb [Vs, Us]) := ⟨h5_⟩
                        have BC : Aside0 (CI p3_6_12_18_21 gc [Cs, Ds]) := ⟨h6_⟩
                        have B7 : Aside0 (Bk p3_6_12_18_21 g7 Z4) := ⟨h7_⟩
                        have NE1 : Aside0 (g1 ≠ g7) := ⟨h8_⟩
                        have NE2 : Aside0 (g2 ≠ g7) := ⟨h9_⟩
                        have NE4 : Aside0 (g4 ≠ g7) := ⟨h10_⟩
                        have G7 : Aside0 (w.heap.size ≤ g7) := ⟨h11_⟩
                        have hHeld := held7 ha_ hb_ (B1.out) (B2.out)
                        refine norm_ (a' := ?_) ?_ ?_
                        rotate_left
                        · simp only [putAll, Act.put, List.setIfInBounds_toArray, List.set_cons_zero, List.set_cons_succ]
                          rfl
                        refine one_ (i := 7) (N := some 32) #[true, true, true, true, true, true, true, true, true, true, true, true, true, false, true, true, true, true, true, false, false, true, false] rfl rfl (by kernel_rfl) (by decide) (fun K hK => ?_)
                        refine goes_ Try.func36 (by kernel_rfl) rfl #[.slice (some ⟨ga, 0, none⟩) ([Ks, Ls] : List _).length 2] (by rfl) rfl rfl (by simp only [List.map_toArray, List.map_cons, List.map_nil]; rfl) ?_
                        with_reducible refine (node_rows_string.calls k _ 2 [Ks, Ls] ks_ _ BA.out (Nat.le_refl _) T1.out).mono ?_
                        rintro e wc_ ⟨vk, rfl, ho_, hb⟩
                        refine ⟨_, rfl, ?_⟩
                        obtain ⟨Avk, cvk, e_⟩ := Kd.R_slice ho_
                        subst e_
                        have HK := Aside0.mk (Kd.R_lower ho_ (below_size HB.out))
                        have B1 := Aside0.mk (blk_below B1.out hb)
                        have B2 := Aside0.mk (blk_below B2.out hb)
                        have B4 := Aside0.mk (blk_below B4.out hb)
                        have BB := Aside0.mk (Kd.C_below BB.out hb)
                        have BC := Aside0.mk (Kd.C_below BC.out hb)
                        have B7 := Aside0.mk (blk_below B7.out hb)
                        have HB := Aside0.mk (below_step HB.out hb)
                        clear ho_ hb
                        refine hK.out _ _ (held7 ha_ hb_ (B1.out) (B2.out)) (fun hHeld => ?_)
                        clear hK K
                        refine norm_ (a' := ?_) ?_ ?_
                        rotate_left
                        · show Act.put _ (some 32) _ = _
                          simp only [Act.put, List.setIfInBounds_toArray, List.set_cons_zero, List.set_cons_succ, i64_w, i32_w]
                          rfl
                        exact norm_ (by first | (simp only [putAll, Act.put, List.setIfInBounds_toArray, List.set_cons_zero, List.set_cons_succ]; done) | (simp only [putAll, Act.put, List.setIfInBounds_toArray, List.set_cons_zero, List.set_cons_succ]; rfl)) (hJ6_7_12_18_21 (ga, (Avk, cvk), gb, gc, g7) _ ⟨⟨HB.out, B1.out, B2.out, B4.out⟩, HK.out, BB.out, BC.out, B7.out, NE1.out, NE2.out, NE4.out, G7.out⟩)
                    · skip
                      rintro ⟨ga, ⟨Avk, cvk⟩, gc, g7⟩ p3_6_7_18_21 ⟨⟨h0_, h1_, h2_, h3_⟩, h4_, h5_, h6_, h7_, h8_, h9_, h10_⟩
                      have HB : Aside0 (Below w.heap.size w p3_6_7_18_21) := ⟨h0_⟩
                      have B1 : Aside0 (Bk p3_6_7_18_21 g1 a_) := ⟨h1_⟩
                      have B2 : Aside0 (Bk p3_6_7_18_21 g2 b_) := ⟨h2_⟩
                      have B4 : Aside0 (Bk p3_6_7_18_21 g4 Z4) := ⟨h3_⟩
                      have HK : Aside0 (RS w p3_6_7_18_21 (.slice Avk ks_.length cvk) ks_) := ⟨h4_⟩
                      have BC : Aside0 (CI p3_6_7_18_21 gc [Cs, Ds]) := ⟨h5_⟩
                      have B7 : Aside0 (Bk p3_6_7_18_21 g7 Z4) := ⟨h6_⟩
                      have NE1 : Aside0 (g1 ≠ g7) := ⟨h7_⟩
                      have NE2 : Aside0 (g2 ≠ g7) := ⟨h8_⟩
                      have NE4 : Aside0 (g4 ≠ g7) := ⟨h9_⟩
                      have G7 : Aside0 (w.heap.size ≤ g7) := ⟨h10_⟩
                      have hHeld := held7 ha_ hb_ (B1.out) (B2.out)
                      refine norm_ (a' := ?_) ?_ ?_
                      rotate_left
                      · simp only [putAll, Act.put, List.setIfInBounds_toArray, List.set_cons_zero, List.set_cons_succ]
                        rfl
                      refine one_ (i := 12) (N := some 37) #[true, true, true, true, true, true, true, true, true, true, true, true, true, false, true, true, true, true, true, false, false, true, false] rfl rfl (by kernel_rfl) (by decide) (fun K hK => ?_)
                      refine value_ (w1 := ?_) (v := ?_) (by rfl) rfl ?_ ?_
                      rotate_left 2
                      · go_simp
                        constructor
                        · rfl
                        · rfl
                      refine hK.out _ _ (held7 ha_ hb_ (blk_alloc B1.out _) (blk_alloc B2.out _)) (fun hHeld => ?_)
                      clear hK K
                      refine norm_ (a' := ?_) ?_ ?_
                      rotate_left
                      · show Act.put _ (some 37) _ = _
                        simp only [Act.put, List.setIfInBounds_toArray, List.set_cons_zero, List.set_cons_succ, i64_w, i32_w]
                        rfl
                      exact norm_ (by first | (simp only [putAll, Act.put, List.setIfInBounds_toArray, List.set_cons_zero, List.set_cons_succ]; done) | (simp only [putAll, Act.put, List.setIfInBounds_toArray, List.set_cons_zero, List.set_cons_succ]; rfl)) (hJ6_7_12_18_21 (ga, (Avk, cvk), p3_6_7_18_21.heap.size, gc, g7) _ ⟨⟨below_alloc HB.out _, blk_alloc B1.out _, blk_alloc B2.out _, blk_alloc B4.out _⟩, Kd.R_alloc HK.out _, C_two_ss p3_6_7_18_21 HC2.out (Kd.C_below HR2.out HB.out) HC5.out (Kd.C_below HR5.out HB.out), Kd.C_alloc BC.out _, blk_alloc B7.out _, NE1.out, NE2.out, NE4.out, G7.out⟩)
                  · skip
                    rintro ⟨ga, ⟨Avk, cvk⟩, gb, g7⟩ p3_6_7_12_21 ⟨⟨h0_, h1_, h2_, h3_⟩, h4_, h5_, h6_, h7_, h8_, h9_, h10_⟩
                    have HB : Aside0 (Below w.heap.size w p3_6_7_12_21) := ⟨h0_⟩
                    have B1 : Aside0 (Bk p3_6_7_12_21 g1 a_) := ⟨h1_⟩
                    have B2 : Aside0 (Bk p3_6_7_12_21 g2 b_) := ⟨h2_⟩
                    have B4 : Aside0 (Bk p3_6_7_12_21 g4 Z4) := ⟨h3_⟩
                    have HK : Aside0 (RS w p3_6_7_12_21 (.slice Avk ks_.length cvk) ks_) := ⟨h4_⟩
                    have BB : Aside0 (CS p3_6_7_12_21 gb [Vs, Us]) := ⟨h5_⟩
                    have B7 : Aside0 (Bk p3_6_7_12_21 g7 Z4) := ⟨h6_⟩
                    have NE1 : Aside0 (g1 ≠ g7) := ⟨h7_⟩
                    have NE2 : Aside0 (g2 ≠ g7) := ⟨h8_⟩
                    have NE4 : Aside0 (g4 ≠ g7) := ⟨h9_⟩
                    have G7 : Aside0 (w.heap.size ≤ g7) := ⟨h10_⟩
                    have hHeld := held7 ha_ hb_ (B1.out) (B2.out)
                    refine norm_ (a' := ?_) ?_ ?_
                    rotate_left
                    · simp only [putAll, Act.put, List.setIfInBounds_toArray, List.set_cons_zero, List.set_cons_succ]
                      rfl
                    refine two_ (i := 13) (j := 18) (Ni := some 38) (Nj := some 43) #[true, true, true, true, true, true, true, true, true, true, true, true, true, true, true, true, true, true, false, false, false, true, false] #[true, true, true, true, true, true, true, true, true, true, true, true, true, false, true, true, true, true, true, false, false, true, false] rfl rfl rfl rfl (by kernel_rfl) (by decide) (by decide) (fun K hK => ?_) (fun K hK => ?_)
                    · skip
                      refine goes_ Try.func36 (by kernel_rfl) rfl #[.slice (some ⟨gb, 0, none⟩) ([Vs, Us] : List _).length 2] (by rfl) rfl rfl (by simp only [List.map_toArray, List.map_cons, List.map_nil]; rfl) ?_
                      with_reducible refine (node_rows_string.calls k _ 2 [Vs, Us] vs_ _ BB.out (Nat.le_refl _) T2.out).mono ?_
                      rintro e wc_ ⟨vv, rfl, ho_, hb⟩
                      refine ⟨_, rfl, ?_⟩
                      obtain ⟨Avv, cvv, e_⟩ := Kd.R_slice ho_
                      subst e_
                      have HV := Aside0.mk (Kd.R_lower ho_ (below_size HB.out))
                      have B1 := Aside0.mk (blk_below B1.out hb)
                      have B2 := Aside0.mk (blk_below B2.out hb)
                      have B4 := Aside0.mk (blk_below B4.out hb)
                      have HK := Aside0.mk (Kd.R_below HK.out hb)
                      have B7 := Aside0.mk (blk_below B7.out hb)
                      have HB := Aside0.mk (below_step HB.out hb)
                      clear ho_ hb
                      refine hK.out _ _ (held7 ha_ hb_ (B1.out) (B2.out)) (fun hHeld => ?_)
                      clear hK K
                      refine norm_ (a' := ?_) ?_ ?_
                      rotate_left
                      · show Act.put _ (some 38) _ = _
                        simp only [Act.put, List.setIfInBounds_toArray, List.set_cons_zero, List.set_cons_succ, i64_w, i32_w]
                        rfl
                      exact norm_ (by first | (simp only [putAll, Act.put, List.setIfInBounds_toArray, List.set_cons_zero, List.set_cons_succ]; done) | (simp only [putAll, Act.put, List.setIfInBounds_toArray, List.set_cons_zero, List.set_cons_succ]; rfl)) (hJ6_7_12_13_21 (ga, (Avk, cvk), gb, (Avv, cvv), g7) _ ⟨⟨HB.out, B1.out, B2.out, B4.out⟩, HK.out, HV.out, B7.out, NE1.out, NE2.out, NE4.out, G7.out⟩)
                    · skip
                      refine value_ (w1 := ?_) (v := ?_) (by rfl) rfl ?_ ?_
                      rotate_left 2
                      · go_simp
                        constructor
                        · rfl
                        · rfl
                      refine hK.out _ _ (held7 ha_ hb_ (blk_alloc B1.out _) (blk_alloc B2.out _)) (fun hHeld => ?_)
                      clear hK K
                      refine norm_ (a' := ?_) ?_ ?_
                      rotate_left
                      · show Act.put _ (some 43) _ = _
                        simp only [Act.put, List.setIfInBounds_toArray, List.set_cons_zero, List.set_cons_succ, i64_w, i32_w]
                        rfl
                      exact norm_ (by first | (simp only [putAll, Act.put, List.setIfInBounds_toArray, List.set_cons_zero, List.set_cons_succ]; done) | (simp only [putAll, Act.put, List.setIfInBounds_toArray, List.set_cons_zero, List.set_cons_succ]; rfl)) (hJ6_7_12_18_21 (ga, (Avk, cvk), gb, p3_6_7_12_21.heap.size, g7) _ ⟨⟨below_alloc HB.out _, blk_alloc B1.out _, blk_alloc B2.out _, blk_alloc B4.out _⟩, Kd.R_alloc HK.out _, Kd.C_alloc BB.out _, C_two_si p3_6_7_12_21 HC3.out (Kd.C_below HR3.out HB.out) HC6.out (Kd.C_below HR6.out HB.out), blk_alloc B7.out _, NE1.out, NE2.out, NE4.out, G7.out⟩)
                · skip
                  rintro ⟨ga, ⟨Avk, cvk⟩, gb, gc⟩ p3_6_7_12_18 ⟨⟨h0_, h1_, h2_, h3_⟩, h4_, h5_, h6_⟩
                  have HB : Aside0 (Below w.heap.size w p3_6_7_12_18) := ⟨h0_⟩
                  have B1 : Aside0 (Bk p3_6_7_12_18 g1 a_) := ⟨h1_⟩
                  have B2 : Aside0 (Bk p3_6_7_12_18 g2 b_) := ⟨h2_⟩
                  have B4 : Aside0 (Bk p3_6_7_12_18 g4 Z4) := ⟨h3_⟩
                  have HK : Aside0 (RS w p3_6_7_12_18 (.slice Avk ks_.length cvk) ks_) := ⟨h4_⟩
                  have BB : Aside0 (CS p3_6_7_12_18 gb [Vs, Us]) := ⟨h5_⟩
                  have BC : Aside0 (CI p3_6_7_12_18 gc [Cs, Ds]) := ⟨h6_⟩
                  have hHeld := held7 ha_ hb_ (B1.out) (B2.out)
                  refine norm_ (a' := ?_) ?_ ?_
                  rotate_left
                  · simp only [putAll, Act.put, List.setIfInBounds_toArray, List.set_cons_zero, List.set_cons_succ]
                    rfl
                  refine two_ (i := 13) (j := 21) (Ni := some 38) (Nj := some 8) #[true, true, true, true, true, true, true, true, true, true, true, true, true, true, true, true, true, true, true, false, false, false, false] #[true, true, true, true, true, true, true, true, true, true, true, true, true, false, true, true, true, true, true, false, false, true, false] rfl rfl rfl rfl (by kernel_rfl) (by decide) (by decide) (fun K hK => ?_) (fun K hK => ?_)
                  · skip
                    refine goes_ Try.func36 (by kernel_rfl) rfl #[.slice (some ⟨gb, 0, none⟩) ([Vs, Us] : List _).length 2] (by rfl) rfl rfl (by simp only [List.map_toArray, List.map_cons, List.map_nil]; rfl) ?_
                    with_reducible refine (node_rows_string.calls k _ 2 [Vs, Us] vs_ _ BB.out (Nat.le_refl _) T2.out).mono ?_
                    rintro e wc_ ⟨vv, rfl, ho_, hb⟩
                    refine ⟨_, rfl, ?_⟩
                    obtain ⟨Avv, cvv, e_⟩ := Kd.R_slice ho_
                    subst e_
                    have HV := Aside0.mk (Kd.R_lower ho_ (below_size HB.out))
                    have B1 := Aside0.mk (blk_below B1.out hb)
                    have B2 := Aside0.mk (blk_below B2.out hb)
                    have B4 := Aside0.mk (blk_below B4.out hb)
                    have HK := Aside0.mk (Kd.R_below HK.out hb)
                    have BC := Aside0.mk (Kd.C_below BC.out hb)
                    have HB := Aside0.mk (below_step HB.out hb)
                    clear ho_ hb
                    refine hK.out _ _ (held7 ha_ hb_ (B1.out) (B2.out)) (fun hHeld => ?_)
                    clear hK K
                    refine norm_ (a' := ?_) ?_ ?_
                    rotate_left
                    · show Act.put _ (some 38) _ = _
                      simp only [Act.put, List.setIfInBounds_toArray, List.set_cons_zero, List.set_cons_succ, i64_w, i32_w]
                      rfl
                    exact norm_ (by first | (simp only [putAll, Act.put, List.setIfInBounds_toArray, List.set_cons_zero, List.set_cons_succ]; done) | (simp only [putAll, Act.put, List.setIfInBounds_toArray, List.set_cons_zero, List.set_cons_succ]; rfl)) (hJ6_7_12_13_18 (ga, (Avk, cvk), gb, (Avv, cvv), gc) _ ⟨⟨HB.out, B1.out, B2.out, B4.out⟩, HK.out, HV.out, BC.out⟩)
                  · skip
                    refine value_ (w1 := ?_) (v := ?_) (by rfl) rfl ?_ ?_
                    rotate_left 2
                    · go_simp
                      constructor
                      · rfl
                      · rfl
                    refine hK.out _ _ (held7 ha_ hb_ (blk_alloc B1.out _) (blk_alloc B2.out _)) (fun hHeld => ?_)
                    clear hK K
                    refine norm_ (a' := ?_) ?_ ?_
                    rotate_left
                    · show Act.put _ (some 8) _ = _
                      simp only [Act.put, List.setIfInBounds_toArray, List.set_cons_zero, List.set_cons_succ, i64_w, i32_w]
                      rfl
                    exact norm_ (by first | (simp only [putAll, Act.put, List.setIfInBounds_toArray, List.set_cons_zero, List.set_cons_succ]; done) | (simp only [putAll, Act.put, List.setIfInBounds_toArray, List.set_cons_zero, List.set_cons_succ]; rfl)) (hJ6_7_12_18_21 (ga, (Avk, cvk), gb, gc, p3_6_7_12_18.heap.size) _ ⟨⟨below_alloc HB.out _, blk_alloc B1.out _, blk_alloc B2.out _, blk_alloc B4.out _⟩, Kd.R_alloc HK.out _, Kd.C_alloc BB.out _, Kd.C_alloc BC.out _, blk_new p3_6_7_12_18 _, Nat.ne_of_lt (blk_lt B1.out), Nat.ne_of_lt (blk_lt B2.out), Nat.ne_of_lt (blk_lt B4.out), below_size HB.out⟩)
              · skip
                rintro ⟨ga, ⟨Avk, cvk⟩, gb, ⟨Avv, cvv⟩⟩ p3_6_7_12_13 ⟨⟨h0_, h1_, h2_, h3_⟩, h4_, h5_⟩
                have HB : Aside0 (Below w.heap.size w p3_6_7_12_13) := ⟨h0_⟩
                have B1 : Aside0 (Bk p3_6_7_12_13 g1 a_) := ⟨h1_⟩
                have B2 : Aside0 (Bk p3_6_7_12_13 g2 b_) := ⟨h2_⟩
                have B4 : Aside0 (Bk p3_6_7_12_13 g4 Z4) := ⟨h3_⟩
                have HK : Aside0 (RS w p3_6_7_12_13 (.slice Avk ks_.length cvk) ks_) := ⟨h4_⟩
                have HV : Aside0 (RS w p3_6_7_12_13 (.slice Avv vs_.length cvv) vs_) := ⟨h5_⟩
                have hHeld := held7 ha_ hb_ (B1.out) (B2.out)
                refine norm_ (a' := ?_) ?_ ?_
                rotate_left
                · simp only [putAll, Act.put, List.setIfInBounds_toArray, List.set_cons_zero, List.set_cons_succ]
                  rfl
                refine two_ (i := 18) (j := 21) (Ni := some 43) (Nj := some 8) #[true, true, true, true, true, true, true, true, true, true, true, true, true, true, true, true, true, true, true, false, false, false, false] #[true, true, true, true, true, true, true, true, true, true, true, true, true, true, true, true, true, true, false, false, false, true, false] rfl rfl rfl rfl (by kernel_rfl) (by decide) (by decide) (fun K hK => ?_) (fun K hK => ?_)
                · skip
                  refine value_ (w1 := ?_) (v := ?_) (by rfl) rfl ?_ ?_
                  rotate_left 2
                  · go_simp
                    constructor
                    · rfl
                    · rfl
                  refine hK.out _ _ (held7 ha_ hb_ (blk_alloc B1.out _) (blk_alloc B2.out _)) (fun hHeld => ?_)
                  clear hK K
                  refine norm_ (a' := ?_) ?_ ?_
                  rotate_left
                  · show Act.put _ (some 43) _ = _
                    simp only [Act.put, List.setIfInBounds_toArray, List.set_cons_zero, List.set_cons_succ, i64_w, i32_w]
                    rfl
                  exact norm_ (by first | (simp only [putAll, Act.put, List.setIfInBounds_toArray, List.set_cons_zero, List.set_cons_succ]; done) | (simp only [putAll, Act.put, List.setIfInBounds_toArray, List.set_cons_zero, List.set_cons_succ]; rfl)) (hJ6_7_12_13_18 (ga, (Avk, cvk), gb, (Avv, cvv), p3_6_7_12_13.heap.size) _ ⟨⟨below_alloc HB.out _, blk_alloc B1.out _, blk_alloc B2.out _, blk_alloc B4.out _⟩, Kd.R_alloc HK.out _, Kd.R_alloc HV.out _, C_two_si p3_6_7_12_13 HC3.out (Kd.C_below HR3.out HB.out) HC6.out (Kd.C_below HR6.out HB.out)⟩)
                · skip
                  refine value_ (w1 := ?_) (v := ?_) (by rfl) rfl ?_ ?_
                  rotate_left 2
                  · go_simp
                    constructor
                    · rfl
                    · rfl
                  refine hK.out _ _ (held7 ha_ hb_ (blk_alloc B1.out _) (blk_alloc B2.out _)) (fun hHeld => ?_)
                  clear hK K
                  refine norm_ (a' := ?_) ?_ ?_
                  rotate_left
                  · show Act.put _ (some 8) _ = _
                    simp only [Act.put, List.setIfInBounds_toArray, List.set_cons_zero, List.set_cons_succ, i64_w, i32_w]
                    rfl
                  exact norm_ (by first | (simp only [putAll, Act.put, List.setIfInBounds_toArray, List.set_cons_zero, List.set_cons_succ]; done) | (simp only [putAll, Act.put, List.setIfInBounds_toArray, List.set_cons_zero, List.set_cons_succ]; rfl)) (hJ6_7_12_13_21 (ga, (Avk, cvk), gb, (Avv, cvv), p3_6_7_12_13.heap.size) _ ⟨⟨below_alloc HB.out _, blk_alloc B1.out _, blk_alloc B2.out _, blk_alloc B4.out _⟩, Kd.R_alloc HK.out _, Kd.R_alloc HV.out _, blk_new p3_6_7_12_13 _, Nat.ne_of_lt (blk_lt B1.out), Nat.ne_of_lt (blk_lt B2.out), Nat.ne_of_lt (blk_lt B4.out), below_size HB.out⟩)
            · skip
              rintro ⟨ga, ⟨Avk, cvk⟩, gb, gc, g7⟩ p3_6_7_12_18_21 ⟨⟨h0_, h1_, h2_, h3_⟩, h4_, h5_, h6_, h7_, h8_, h9_, h10_, h11_⟩
              have HB : Aside0 (Below w.heap.size w p3_6_7_12_18_21) := ⟨h0_⟩
              have B1 : Aside0 (Bk p3_6_7_12_18_21 g1 a_) := ⟨h1_⟩
              have B2 : Aside0 (Bk p3_6_7_12_18_21 g2 b_) := ⟨h2_⟩
              have B4 : Aside0 (Bk p3_6_7_12_18_21 g4 Z4) := ⟨h3_⟩
              have HK : Aside0 (RS w p3_6_7_12_18_21 (.slice Avk ks_.length cvk) ks_) := ⟨h4_⟩
              have BB : Aside0 (CS p3_6_7_12_18_21 gb [Vs, Us]) := ⟨h5_⟩
              have BC : Aside0 (CI p3_6_7_12_18_21 gc [Cs, Ds]) := ⟨h6_⟩
              have B7 : Aside0 (Bk p3_6_7_12_18_21 g7 Z4) := ⟨h7_⟩
              have NE1 : Aside0 (g1 ≠ g7) := ⟨h8_⟩
              have NE2 : Aside0 (g2 ≠ g7) := ⟨h9_⟩
              have NE4 : Aside0 (g4 ≠ g7) := ⟨h10_⟩
              have G7 : Aside0 (w.heap.size ≤ g7) := ⟨h11_⟩
              have hHeld := held7 ha_ hb_ (B1.out) (B2.out)
              refine norm_ (a' := ?_) ?_ ?_
              rotate_left
              · simp only [putAll, Act.put, List.setIfInBounds_toArray, List.set_cons_zero, List.set_cons_succ]
                rfl
              refine one_ (i := 13) (N := some 38) #[true, true, true, true, true, true, true, true, true, true, true, true, true, true, true, true, true, true, true, false, false, true, false] rfl rfl (by kernel_rfl) (by decide) (fun K hK => ?_)
              refine goes_ Try.func36 (by kernel_rfl) rfl #[.slice (some ⟨gb, 0, none⟩) ([Vs, Us] : List _).length 2] (by rfl) rfl rfl (by simp only [List.map_toArray, List.map_cons, List.map_nil]; rfl) ?_
              with_reducible refine (node_rows_string.calls k _ 2 [Vs, Us] vs_ _ BB.out (Nat.le_refl _) T2.out).mono ?_
              rintro e wc_ ⟨vv, rfl, ho_, hb⟩
              refine ⟨_, rfl, ?_⟩
              obtain ⟨Avv, cvv, e_⟩ := Kd.R_slice ho_
              subst e_
              have HV := Aside0.mk (Kd.R_lower ho_ (below_size HB.out))
              have B1 := Aside0.mk (blk_below B1.out hb)
              have B2 := Aside0.mk (blk_below B2.out hb)
              have B4 := Aside0.mk (blk_below B4.out hb)
              have HK := Aside0.mk (Kd.R_below HK.out hb)
              have BC := Aside0.mk (Kd.C_below BC.out hb)
              have B7 := Aside0.mk (blk_below B7.out hb)
              have HB := Aside0.mk (below_step HB.out hb)
              clear ho_ hb
              refine hK.out _ _ (held7 ha_ hb_ (B1.out) (B2.out)) (fun hHeld => ?_)
              clear hK K
              refine norm_ (a' := ?_) ?_ ?_
              rotate_left
              · show Act.put _ (some 38) _ = _
                simp only [Act.put, List.setIfInBounds_toArray, List.set_cons_zero, List.set_cons_succ, i64_w, i32_w]
                rfl
              exact norm_ (by first | (simp only [putAll, Act.put, List.setIfInBounds_toArray, List.set_cons_zero, List.set_cons_succ]; done) | (simp only [putAll, Act.put, List.setIfInBounds_toArray, List.set_cons_zero, List.set_cons_succ]; rfl)) (hJ6_7_12_13_18_21 (ga, (Avk, cvk), gb, (Avv, cvv), gc, g7) _ ⟨⟨HB.out, B1.out, B2.out, B4.out⟩, HK.out, HV.out, BC.out, B7.out, NE1.out, NE2.out, NE4.out, G7.out⟩)
          · skip
            rintro ⟨ga, ⟨Avk, cvk⟩, gb, ⟨Avv, cvv⟩, g7⟩ p3_6_7_12_13_21 ⟨⟨h0_, h1_, h2_, h3_⟩, h4_, h5_, h6_, h7_, h8_, h9_, h10_⟩
            have HB : Aside0 (Below w.heap.size w p3_6_7_12_13_21) := ⟨h0_⟩
            have B1 : Aside0 (Bk p3_6_7_12_13_21 g1 a_) := ⟨h1_⟩
            have B2 : Aside0 (Bk p3_6_7_12_13_21 g2 b_) := ⟨h2_⟩
            have B4 : Aside0 (Bk p3_6_7_12_13_21 g4 Z4) := ⟨h3_⟩
            have HK : Aside0 (RS w p3_6_7_12_13_21 (.slice Avk ks_.length cvk) ks_) := ⟨h4_⟩
            have HV : Aside0 (RS w p3_6_7_12_13_21 (.slice Avv vs_.length cvv) vs_) := ⟨h5_⟩
            have B7 : Aside0 (Bk p3_6_7_12_13_21 g7 Z4) := ⟨h6_⟩
            have NE1 : Aside0 (g1 ≠ g7) := ⟨h7_⟩
            have NE2 : Aside0 (g2 ≠ g7) := ⟨h8_⟩
            have NE4 : Aside0 (g4 ≠ g7) := ⟨h9_⟩
            have G7 : Aside0 (w.heap.size ≤ g7) := ⟨h10_⟩
            have hHeld := held7 ha_ hb_ (B1.out) (B2.out)
            refine norm_ (a' := ?_) ?_ ?_
            rotate_left
            · simp only [putAll, Act.put, List.setIfInBounds_toArray, List.set_cons_zero, List.set_cons_succ]
              rfl
            refine one_ (i := 18) (N := some 43) #[true, true, true, true, true, true, true, true, true, true, true, true, true, true, true, true, true, true, true, false, false, true, false] rfl rfl (by kernel_rfl) (by decide) (fun K hK => ?_)
            refine value_ (w1 := ?_) (v := ?_) (by rfl) rfl ?_ ?_
            rotate_left 2
            · go_simp
              constructor
              · rfl
              · rfl
            refine hK.out _ _ (held7 ha_ hb_ (blk_alloc B1.out _) (blk_alloc B2.out _)) (fun hHeld => ?_)
            clear hK K
            refine norm_ (a' := ?_) ?_ ?_
            rotate_left
            · show Act.put _ (some 43) _ = _
              simp only [Act.put, List.setIfInBounds_toArray, List.set_cons_zero, List.set_cons_succ, i64_w, i32_w]
              rfl
            exact norm_ (by first | (simp only [putAll, Act.put, List.setIfInBounds_toArray, List.set_cons_zero, List.set_cons_succ]; done) | (simp only [putAll, Act.put, List.setIfInBounds_toArray, List.set_cons_zero, List.set_cons_succ]; rfl)) (hJ6_7_12_13_18_21 (ga, (Avk, cvk), gb, (Avv, cvv), p3_6_7_12_13_21.heap.size, g7) _ ⟨⟨below_alloc HB.out _, blk_alloc B1.out _, blk_alloc B2.out _, blk_alloc B4.out _⟩, Kd.R_alloc HK.out _, Kd.R_alloc HV.out _, C_two_si p3_6_7_12_13_21 HC3.out (Kd.C_below HR3.out HB.out) HC6.out (Kd.C_below HR6.out HB.out), blk_alloc B7.out _, NE1.out, NE2.out, NE4.out, G7.out⟩)
        · skip
          rintro ⟨ga, ⟨Avk, cvk⟩, gb, ⟨Avv, cvv⟩, gc⟩ p3_6_7_12_13_18 ⟨⟨h0_, h1_, h2_, h3_⟩, h4_, h5_, h6_⟩
          have HB : Aside0 (Below w.heap.size w p3_6_7_12_13_18) := ⟨h0_⟩
          have B1 : Aside0 (Bk p3_6_7_12_13_18 g1 a_) := ⟨h1_⟩
          have B2 : Aside0 (Bk p3_6_7_12_13_18 g2 b_) := ⟨h2_⟩
          have B4 : Aside0 (Bk p3_6_7_12_13_18 g4 Z4) := ⟨h3_⟩
          have HK : Aside0 (RS w p3_6_7_12_13_18 (.slice Avk ks_.length cvk) ks_) := ⟨h4_⟩
          have HV : Aside0 (RS w p3_6_7_12_13_18 (.slice Avv vs_.length cvv) vs_) := ⟨h5_⟩
          have BC : Aside0 (CI p3_6_7_12_13_18 gc [Cs, Ds]) := ⟨h6_⟩
          have hHeld := held7 ha_ hb_ (B1.out) (B2.out)
          refine norm_ (a' := ?_) ?_ ?_
          rotate_left
          · simp only [putAll, Act.put, List.setIfInBounds_toArray, List.set_cons_zero, List.set_cons_succ]
            rfl
          refine two_ (i := 19) (j := 21) (Ni := some 44) (Nj := some 8) #[true, true, true, true, true, true, true, true, true, true, true, true, true, true, true, true, true, true, true, true, false, false, false] #[true, true, true, true, true, true, true, true, true, true, true, true, true, true, true, true, true, true, true, false, false, true, false] rfl rfl rfl rfl (by kernel_rfl) (by decide) (by decide) (fun K hK => ?_) (fun K hK => ?_)
          · skip
            refine goes_ Try.func37 (by kernel_rfl) rfl #[.slice (some ⟨gc, 0, none⟩) ([Cs, Ds] : List _).length 2] (by rfl) rfl rfl (by simp only [List.map_toArray, List.map_cons, List.map_nil]; rfl) ?_
            with_reducible refine (node_rows_int.calls k _ 2 [Cs, Ds] cs_ _ BC.out (Nat.le_refl _) T3.out).mono ?_
            rintro e wc_ ⟨vc, rfl, ho_, hb⟩
            refine ⟨_, rfl, ?_⟩
            obtain ⟨Avc, cvc, e_⟩ := Kd.R_slice ho_
            subst e_
            have HC := Aside0.mk (Kd.R_lower ho_ (below_size HB.out))
            have B1 := Aside0.mk (blk_below B1.out hb)
            have B2 := Aside0.mk (blk_below B2.out hb)
            have B4 := Aside0.mk (blk_below B4.out hb)
            have HK := Aside0.mk (Kd.R_below HK.out hb)
            have HV := Aside0.mk (Kd.R_below HV.out hb)
            have HB := Aside0.mk (below_step HB.out hb)
            clear ho_ hb
            refine hK.out _ _ (held7 ha_ hb_ (B1.out) (B2.out)) (fun hHeld => ?_)
            clear hK K
            refine norm_ (a' := ?_) ?_ ?_
            rotate_left
            · show Act.put _ (some 44) _ = _
              simp only [Act.put, List.setIfInBounds_toArray, List.set_cons_zero, List.set_cons_succ, i64_w, i32_w]
              rfl
            refine pure_ (i := 20) (N := some 45) (v := ?_) (a' := ?_) #[true, true, true, true, true, true, true, true, true, true, true, true, true, true, true, true, true, true, true, true, true, false, false] rfl rfl (by kernel_rfl) (fun _ _ _ h => h) (Or.inl ⟨by rfl, ?_⟩) ?_ ?_
            rotate_left
            · intro w'
              go_simp
              with_reducible rfl
            rotate_left
            · simp only [Act.put, List.setIfInBounds_toArray, List.set_cons_zero, List.set_cons_succ, i64_w, i32_w]
              rfl
            exact norm_ (by first | (simp only [putAll, Act.put, List.setIfInBounds_toArray, List.set_cons_zero, List.set_cons_succ]; done) | (simp only [putAll, Act.put, List.setIfInBounds_toArray, List.set_cons_zero, List.set_cons_succ]; rfl)) (hJ6_7_12_13_18_19 (ga, (Avk, cvk), gb, (Avv, cvv), gc, (Avc, cvc)) _ ⟨⟨HB.out, B1.out, B2.out, B4.out⟩, HK.out, HV.out, HC.out⟩)
          · skip
            refine value_ (w1 := ?_) (v := ?_) (by rfl) rfl ?_ ?_
            rotate_left 2
            · go_simp
              constructor
              · rfl
              · rfl
            refine hK.out _ _ (held7 ha_ hb_ (blk_alloc B1.out _) (blk_alloc B2.out _)) (fun hHeld => ?_)
            clear hK K
            refine norm_ (a' := ?_) ?_ ?_
            rotate_left
            · show Act.put _ (some 8) _ = _
              simp only [Act.put, List.setIfInBounds_toArray, List.set_cons_zero, List.set_cons_succ, i64_w, i32_w]
              rfl
            exact norm_ (by first | (simp only [putAll, Act.put, List.setIfInBounds_toArray, List.set_cons_zero, List.set_cons_succ]; done) | (simp only [putAll, Act.put, List.setIfInBounds_toArray, List.set_cons_zero, List.set_cons_succ]; rfl)) (hJ6_7_12_13_18_21 (ga, (Avk, cvk), gb, (Avv, cvv), gc, p3_6_7_12_13_18.heap.size) _ ⟨⟨below_alloc HB.out _, blk_alloc B1.out _, blk_alloc B2.out _, blk_alloc B4.out _⟩, Kd.R_alloc HK.out _, Kd.R_alloc HV.out _, Kd.C_alloc BC.out _, blk_new p3_6_7_12_13_18 _, Nat.ne_of_lt (blk_lt B1.out), Nat.ne_of_lt (blk_lt B2.out), Nat.ne_of_lt (blk_lt B4.out), below_size HB.out⟩)
      · skip
        rintro ⟨ga, ⟨Avk, cvk⟩, gb, ⟨Avv, cvv⟩, gc, g7⟩ p3_6_7_12_13_18_21 ⟨⟨h0_, h1_, h2_, h3_⟩, h4_, h5_, h6_, h7_, h8_, h9_, h10_, h11_⟩
        have HB : Aside0 (Below w.heap.size w p3_6_7_12_13_18_21) := ⟨h0_⟩
        have B1 : Aside0 (Bk p3_6_7_12_13_18_21 g1 a_) := ⟨h1_⟩
        have B2 : Aside0 (Bk p3_6_7_12_13_18_21 g2 b_) := ⟨h2_⟩
        have B4 : Aside0 (Bk p3_6_7_12_13_18_21 g4 Z4) := ⟨h3_⟩
        have HK : Aside0 (RS w p3_6_7_12_13_18_21 (.slice Avk ks_.length cvk) ks_) := ⟨h4_⟩
        have HV : Aside0 (RS w p3_6_7_12_13_18_21 (.slice Avv vs_.length cvv) vs_) := ⟨h5_⟩
        have BC : Aside0 (CI p3_6_7_12_13_18_21 gc [Cs, Ds]) := ⟨h6_⟩
        have B7 : Aside0 (Bk p3_6_7_12_13_18_21 g7 Z4) := ⟨h7_⟩
        have NE1 : Aside0 (g1 ≠ g7) := ⟨h8_⟩
        have NE2 : Aside0 (g2 ≠ g7) := ⟨h9_⟩
        have NE4 : Aside0 (g4 ≠ g7) := ⟨h10_⟩
        have G7 : Aside0 (w.heap.size ≤ g7) := ⟨h11_⟩
        have hHeld := held7 ha_ hb_ (B1.out) (B2.out)
        refine norm_ (a' := ?_) ?_ ?_
        rotate_left
        · simp only [putAll, Act.put, List.setIfInBounds_toArray, List.set_cons_zero, List.set_cons_succ]
          rfl
        refine one_ (i := 19) (N := some 44) #[true, true, true, true, true, true, true, true, true, true, true, true, true, true, true, true, true, true, true, true, false, true, false] rfl rfl (by kernel_rfl) (by decide) (fun K hK => ?_)
        refine goes_ Try.func37 (by kernel_rfl) rfl #[.slice (some ⟨gc, 0, none⟩) ([Cs, Ds] : List _).length 2] (by rfl) rfl rfl (by simp only [List.map_toArray, List.map_cons, List.map_nil]; rfl) ?_
        with_reducible refine (node_rows_int.calls k _ 2 [Cs, Ds] cs_ _ BC.out (Nat.le_refl _) T3.out).mono ?_
        rintro e wc_ ⟨vc, rfl, ho_, hb⟩
        refine ⟨_, rfl, ?_⟩
        obtain ⟨Avc, cvc, e_⟩ := Kd.R_slice ho_
        subst e_
        have HC := Aside0.mk (Kd.R_lower ho_ (below_size HB.out))
        have B1 := Aside0.mk (blk_below B1.out hb)
        have B2 := Aside0.mk (blk_below B2.out hb)
        have B4 := Aside0.mk (blk_below B4.out hb)
        have HK := Aside0.mk (Kd.R_below HK.out hb)
        have HV := Aside0.mk (Kd.R_below HV.out hb)
        have B7 := Aside0.mk (blk_below B7.out hb)
        have HB := Aside0.mk (below_step HB.out hb)
        clear ho_ hb
        refine hK.out _ _ (held7 ha_ hb_ (B1.out) (B2.out)) (fun hHeld => ?_)
        clear hK K
        refine norm_ (a' := ?_) ?_ ?_
        rotate_left
        · show Act.put _ (some 44) _ = _
          simp only [Act.put, List.setIfInBounds_toArray, List.set_cons_zero, List.set_cons_succ, i64_w, i32_w]
          rfl
        refine pure_ (i := 20) (N := some 45) (v := ?_) (a' := ?_) #[true, true, true, true, true, true, true, true, true, true, true, true, true, true, true, true, true, true, true, true, true, true, false] rfl rfl (by kernel_rfl) (fun _ _ _ h => h) (Or.inl ⟨by rfl, ?_⟩) ?_ ?_
        rotate_left
        · intro w'
          go_simp
          with_reducible rfl
        rotate_left
        · simp only [Act.put, List.setIfInBounds_toArray, List.set_cons_zero, List.set_cons_succ, i64_w, i32_w]
          rfl
        exact norm_ (by first | (simp only [putAll, Act.put, List.setIfInBounds_toArray, List.set_cons_zero, List.set_cons_succ]; done) | (simp only [putAll, Act.put, List.setIfInBounds_toArray, List.set_cons_zero, List.set_cons_succ]; rfl)) (hJ6_7_12_13_18_19_21 (ga, (Avk, cvk), gb, (Avv, cvv), gc, (Avc, cvc), g7) _ ⟨⟨HB.out, B1.out, B2.out, B4.out⟩, HK.out, HV.out, HC.out, B7.out, NE1.out, NE2.out, NE4.out, G7.out⟩)
    · skip
      rintro ⟨ga, ⟨Avk, cvk⟩, gb, ⟨Avv, cvv⟩, gc, ⟨Avc, cvc⟩⟩ p3_6_7_12_13_18_19 ⟨⟨h0_, h1_, h2_, h3_⟩, h4_, h5_, h6_⟩
      have HB : Aside0 (Below w.heap.size w p3_6_7_12_13_18_19) := ⟨h0_⟩
      have B1 : Aside0 (Bk p3_6_7_12_13_18_19 g1 a_) := ⟨h1_⟩
      have B2 : Aside0 (Bk p3_6_7_12_13_18_19 g2 b_) := ⟨h2_⟩
      have B4 : Aside0 (Bk p3_6_7_12_13_18_19 g4 Z4) := ⟨h3_⟩
      have HK : Aside0 (RS w p3_6_7_12_13_18_19 (.slice Avk ks_.length cvk) ks_) := ⟨h4_⟩
      have HV : Aside0 (RS w p3_6_7_12_13_18_19 (.slice Avv vs_.length cvv) vs_) := ⟨h5_⟩
      have HC : Aside0 (RI w p3_6_7_12_13_18_19 (.slice Avc cs_.length cvc) cs_) := ⟨h6_⟩
      have hHeld := held7 ha_ hb_ (B1.out) (B2.out)
      refine norm_ (a' := ?_) ?_ ?_
      rotate_left
      · simp only [putAll, Act.put, List.setIfInBounds_toArray, List.set_cons_zero, List.set_cons_succ]
        rfl
      refine one_ (i := 21) (N := some 8) #[true, true, true, true, true, true, true, true, true, true, true, true, true, true, true, true, true, true, true, true, true, true, false] rfl rfl (by kernel_rfl) (by decide) (fun K hK => ?_)
      refine value_ (w1 := ?_) (v := ?_) (by rfl) rfl ?_ ?_
      rotate_left 2
      · go_simp
        constructor
        · rfl
        · rfl
      refine hK.out _ _ (held7 ha_ hb_ (blk_alloc B1.out _) (blk_alloc B2.out _)) (fun hHeld => ?_)
      clear hK K
      refine norm_ (a' := ?_) ?_ ?_
      rotate_left
      · show Act.put _ (some 8) _ = _
        simp only [Act.put, List.setIfInBounds_toArray, List.set_cons_zero, List.set_cons_succ, i64_w, i32_w]
        rfl
      exact norm_ (by first | (simp only [putAll, Act.put, List.setIfInBounds_toArray, List.set_cons_zero, List.set_cons_succ]; done) | (simp only [putAll, Act.put, List.setIfInBounds_toArray, List.set_cons_zero, List.set_cons_succ]; rfl)) (hJ6_7_12_13_18_19_21 (ga, (Avk, cvk), gb, (Avv, cvv), gc, (Avc, cvc), p3_6_7_12_13_18_19.heap.size) _ ⟨⟨below_alloc HB.out _, blk_alloc B1.out _, blk_alloc B2.out _, blk_alloc B4.out _⟩, Kd.R_alloc HK.out _, Kd.R_alloc HV.out _, Kd.R_alloc HC.out _, blk_new p3_6_7_12_13_18_19 _, Nat.ne_of_lt (blk_lt B1.out), Nat.ne_of_lt (blk_lt B2.out), Nat.ne_of_lt (blk_lt B4.out), below_size HB.out⟩)
  rintro ⟨ga, ⟨Avk, cvk⟩, gb, ⟨Avv, cvv⟩, gc, ⟨Avc, cvc⟩, g7⟩ p3_6_7_12_13_18_19_21 ⟨⟨h0_, h1_, h2_, h3_⟩, h4_, h5_, h6_, h7_, h8_, h9_, h10_, h11_⟩
  have HB : Aside0 (Below w.heap.size w p3_6_7_12_13_18_19_21) := ⟨h0_⟩
  have B1 : Aside0 (Bk p3_6_7_12_13_18_19_21 g1 a_) := ⟨h1_⟩
  have B2 : Aside0 (Bk p3_6_7_12_13_18_19_21 g2 b_) := ⟨h2_⟩
  have B4 : Aside0 (Bk p3_6_7_12_13_18_19_21 g4 Z4) := ⟨h3_⟩
  have HK : Aside0 (RS w p3_6_7_12_13_18_19_21 (.slice Avk ks_.length cvk) ks_) := ⟨h4_⟩
  have HV : Aside0 (RS w p3_6_7_12_13_18_19_21 (.slice Avv vs_.length cvv) vs_) := ⟨h5_⟩
  have HC : Aside0 (RI w p3_6_7_12_13_18_19_21 (.slice Avc cs_.length cvc) cs_) := ⟨h6_⟩
  have B7 : Aside0 (Bk p3_6_7_12_13_18_19_21 g7 Z4) := ⟨h7_⟩
  have NE1 : Aside0 (g1 ≠ g7) := ⟨h8_⟩
  have NE2 : Aside0 (g2 ≠ g7) := ⟨h9_⟩
  have NE4 : Aside0 (g4 ≠ g7) := ⟨h10_⟩
  have G7 : Aside0 (w.heap.size ≤ g7) := ⟨h11_⟩
  have hHeld := held7 ha_ hb_ (B1.out) (B2.out)
  refine norm_ (a' := ?_) ?_ ?_
  rotate_left
  · simp only [putAll, Act.put, List.setIfInBounds_toArray, List.set_cons_zero, List.set_cons_succ]
    rfl
  refine last_ (i := 22) (N := none) #[true, true, true, true, true, true, true, true, true, true, true, true, true, true, true, true, true, true, true, true, true, true, true] rfl rfl (by kernel_rfl) (by decide) (fun K hK => ?_)
  have x0 : p3_6_7_12_13_18_19_21.cell? ⟨g7, 0, none⟩ = some (.bool false) := (blk_cell B7.out 0).trans rfl
  have x1 : p3_6_7_12_13_18_19_21.cell? ⟨g7, 1, none⟩ = some (.slice none 0 0) := (blk_cell B7.out 1).trans rfl
  have x2 : p3_6_7_12_13_18_19_21.cell? ⟨g7, 2, none⟩ = some (.slice none 0 0) := (blk_cell B7.out 2).trans rfl
  have x3 : p3_6_7_12_13_18_19_21.cell? ⟨g7, 3, none⟩ = some (.slice none 0 0) := (blk_cell B7.out 3).trans rfl
  have xf0 := blk_frozen B7.out 0
  have xf1 := blk_frozen B7.out 1
  have xf2 := blk_frozen B7.out 2
  have xf3 := blk_frozen B7.out 3
  refine skip_ (w1 := ?_) (by rfl) rfl ?_ ?_
  rotate_left
  · go_simp
    rfl
  refine hK.out _ _ ?_
  clear hK K
  refine done_ (by kernel_rfl) ?_
  clear x0 x1 x2 x3 xf0 xf1 xf2 xf3
  clear hHeld
  subst ha_ hb_
  have X7 := Aside0.mk (show ((((p3_6_7_12_13_18_19_21.setCell ⟨g7, 0, none⟩ (.bool lf1)).setCell ⟨g7, 1, none⟩ (.slice Avk ks_.length cvk)).setCell ⟨g7, 2, none⟩ (.slice Avv vs_.length cvv)).setCell ⟨g7, 3, none⟩ (.slice Avc cs_.length cvc)).heap[g7]? = some (.cells #[.bool lf1, .slice Avk ks_.length cvk, .slice Avv vs_.length cvv, .slice Avc cs_.length cvc] 25 (0, 0)) from set4_put B7.out)
  have XB1 := Aside0.mk (show ((((p3_6_7_12_13_18_19_21.setCell ⟨g7, 0, none⟩ (.bool lf1)).setCell ⟨g7, 1, none⟩ (.slice Avk ks_.length cvk)).setCell ⟨g7, 2, none⟩ (.slice Avv vs_.length cvv)).setCell ⟨g7, 3, none⟩ (.slice Avc cs_.length cvc)).heap[g1]? = some (.cells #[.bool lf1, .slice A1 Ks.length c1, .slice A2 Vs.length c2, .slice A3 Cs.length c3] 25 (0, 0)) from set4_far B1.out NE1.out)
  have XB2 := Aside0.mk (show ((((p3_6_7_12_13_18_19_21.setCell ⟨g7, 0, none⟩ (.bool lf1)).setCell ⟨g7, 1, none⟩ (.slice Avk ks_.length cvk)).setCell ⟨g7, 2, none⟩ (.slice Avv vs_.length cvv)).setCell ⟨g7, 3, none⟩ (.slice Avc cs_.length cvc)).heap[g2]? = some (.cells #[.bool lf1, .slice A4 Ls.length c4, .slice A5 Us.length c5, .slice A6 Ds.length c6] 25 (0, 0)) from set4_far B2.out NE2.out)
  have XB4 := Aside0.mk (show ((((p3_6_7_12_13_18_19_21.setCell ⟨g7, 0, none⟩ (.bool lf1)).setCell ⟨g7, 1, none⟩ (.slice Avk ks_.length cvk)).setCell ⟨g7, 2, none⟩ (.slice Avv vs_.length cvv)).setCell ⟨g7, 3, none⟩ (.slice Avc cs_.length cvc)).heap[g4]? = some (.cells #[.bool false, .slice none 0 0, .slice none 0 0, .slice none 0 0] 25 (0, 0)) from set4_far B4.out NE4.out)
  have XHK := Aside0.mk (show Kd.R Kd.string 9 ((((p3_6_7_12_13_18_19_21.setCell ⟨g7, 0, none⟩ (.bool lf1)).setCell ⟨g7, 1, none⟩ (.slice Avk ks_.length cvk)).setCell ⟨g7, 2, none⟩ (.slice Avv vs_.length cvv)).setCell ⟨g7, 3, none⟩ (.slice Avc cs_.length cvc)) w.heap.size (fun _ => True) (.slice Avk ks_.length cvk) ks_ from set4_R HK.out B7.out (by decide))
  have XHV := Aside0.mk (show Kd.R Kd.string 9 ((((p3_6_7_12_13_18_19_21.setCell ⟨g7, 0, none⟩ (.bool lf1)).setCell ⟨g7, 1, none⟩ (.slice Avk ks_.length cvk)).setCell ⟨g7, 2, none⟩ (.slice Avv vs_.length cvv)).setCell ⟨g7, 3, none⟩ (.slice Avc cs_.length cvc)) w.heap.size (fun _ => True) (.slice Avv vs_.length cvv) vs_ from set4_R HV.out B7.out (by decide))
  have XHC := Aside0.mk (show Kd.R (Kd.int .i64) 3 ((((p3_6_7_12_13_18_19_21.setCell ⟨g7, 0, none⟩ (.bool lf1)).setCell ⟨g7, 1, none⟩ (.slice Avk ks_.length cvk)).setCell ⟨g7, 2, none⟩ (.slice Avv vs_.length cvv)).setCell ⟨g7, 3, none⟩ (.slice Avc cs_.length cvc)) w.heap.size (fun _ => True) (.slice Avc cs_.length cvc) cs_ from set4_R HC.out B7.out (by decide))
  have XB := Aside0.mk (show Below w.heap.size w ((((p3_6_7_12_13_18_19_21.setCell ⟨g7, 0, none⟩ (.bool lf1)).setCell ⟨g7, 1, none⟩ (.slice Avk ks_.length cvk)).setCell ⟨g7, 2, none⟩ (.slice Avv vs_.length cvv)).setCell ⟨g7, 3, none⟩ (.slice Avc cs_.length cvc)) from set4_below HB.out G7.out)
  clear B7 B1 B2 B4 HK HV HC HB
  have B7 := X7
  have B1 := XB1
  have B2 := XB2
  have B4 := XB4
  have HK := XHK
  have HV := XHV
  have HC := XHC
  have HB := XB
  clear X7 XB1 XB2 XB4 XHK XHV XHC XB
  generalize (((p3_6_7_12_13_18_19_21.setCell ⟨g7, 0, none⟩ (.bool lf1)).setCell ⟨g7, 1, none⟩ (.slice Avk ks_.length cvk)).setCell ⟨g7, 2, none⟩ (.slice Avv vs_.length cvv)).setCell ⟨g7, 3, none⟩ (.slice Avc cs_.length cvc) = q6 at *
  cases lf1
  case false =>
    have h := H3
    clear H3
    rw [if_neg (by simp)] at h
    obtain ⟨kk_, q4, h⟩ := Option.bind_eq_some_iff.1 h
    have T4 := Aside0.mk q4
    clear q4
    obtain ⟨b3_, q5, h⟩ := Option.bind_eq_some_iff.1 h
    have T5 := Aside0.mk q5
    clear q5
    have y0 : q6.cell? ⟨g7, 0, none⟩ = some (.bool false) := (blk_cell B7.out 0).trans rfl
    have y1 : q6.cell? ⟨g7, 1, none⟩ = some (.slice Avk ks_.length cvk) := (blk_cell B7.out 1).trans rfl
    have y2 : q6.cell? ⟨g7, 2, none⟩ = some (.slice Avv vs_.length cvv) := (blk_cell B7.out 2).trans rfl
    have y3 : q6.cell? ⟨g7, 3, none⟩ = some (.slice Avc cs_.length cvc) := (blk_cell B7.out 3).trans rfl
    have yf1 := blk_frozen B7.out 1
    have e0_ : q6.cell? ⟨g1, 0, none⟩ = some (.bool false) := (blk_cell B1.out 0).trans rfl
    have e1_ : q6.cell? ⟨g1, 1, none⟩ = some (.slice A1 Ks.length c1) := (blk_cell B1.out 1).trans rfl
    have e2_ : q6.cell? ⟨g1, 2, none⟩ = some (.slice A2 Vs.length c2) := (blk_cell B1.out 2).trans rfl
    have e3_ : q6.cell? ⟨g1, 3, none⟩ = some (.slice A3 Cs.length c3) := (blk_cell B1.out 3).trans rfl
    have f0_ : q6.cell? ⟨g2, 0, none⟩ = some (.bool false) := (blk_cell B2.out 0).trans rfl
    have f1_ : q6.cell? ⟨g2, 1, none⟩ = some (.slice A4 Ls.length c4) := (blk_cell B2.out 1).trans rfl
    have f2_ : q6.cell? ⟨g2, 2, none⟩ = some (.slice A5 Us.length c5) := (blk_cell B2.out 2).trans rfl
    have f3_ : q6.cell? ⟨g2, 3, none⟩ = some (.slice A6 Ds.length c6) := (blk_cell B2.out 3).trans rfl
    have fo : ∀ o, (q6.alloc o).cell? ⟨g2, 1, none⟩ = some (.slice A4 Ls.length c4) := fun o => (blk_cell (blk_alloc B2.out o) 1).trans rfl
    go_upto_region 6 with (go_at_call 36; refine (node_rows_string.calls k (some ⟨q6.heap.size + 1, 0, none⟩) 3 [Ks, [key], Ls] kk_ _ ?c3 (Nat.le_refl _) T4.out).mono ?_; (case c3 => exact C_three _ _ HC1.out (Kd.C_below HR1.out HB.out) HC4.out (Kd.C_below HR4.out HB.out)); rintro e w7 ⟨v_, rfl, ho_, hb⟩; obtain ⟨Auk, cuk, e_⟩ := Kd.R_slice ho_; subst e_; have HU := Aside0.mk (Kd.R_lower ho_ (below_size (below_alloc (below_alloc HB.out _) _))); have XB1 := Aside0.mk (blk_below (blk_alloc (blk_alloc B1.out _) _) hb); have XB2 := Aside0.mk (blk_below (blk_alloc (blk_alloc B2.out _) _) hb); have XB4 := Aside0.mk (blk_below (blk_alloc (blk_alloc B4.out _) _) hb); have XB7 := Aside0.mk (blk_below (blk_alloc (blk_alloc B7.out _) _) hb); have XV := Aside0.mk (Kd.R_below (Kd.R_alloc (Kd.R_alloc HV.out _) _) hb); have XC := Aside0.mk (Kd.R_below (Kd.R_alloc (Kd.R_alloc HC.out _) _) hb); have XB := Aside0.mk (below_step (below_alloc (below_alloc HB.out _) _) hb); clear hb ho_; clear B1 B2 B4 B7 HV HC HB; have B1 := XB1; have B2 := XB2; have B4 := XB4; have B7 := XB7; have HV := XV; have HC := XC; have HB := XB; clear XB1 XB2 XB4 XB7 XV XC XB; clear HK; have y0 : w7.cell? ⟨g7, 0, none⟩ = some (.bool false) := (blk_cell B7.out 0).trans rfl; have y1 : w7.cell? ⟨g7, 1, none⟩ = some (.slice Avk ks_.length cvk) := (blk_cell B7.out 1).trans rfl; have y2 : w7.cell? ⟨g7, 2, none⟩ = some (.slice Avv vs_.length cvv) := (blk_cell B7.out 2).trans rfl; have y3 : w7.cell? ⟨g7, 3, none⟩ = some (.slice Avc cs_.length cvc) := (blk_cell B7.out 3).trans rfl; have yf1 := blk_frozen B7.out 1)
    clear y0 y1 y2 y3 yf1
    have X7 := Aside0.mk (show (w7.setCell ⟨g7, 1, none⟩ (.slice Auk kk_.length cuk)).heap[g7]? = some (.cells #[.bool false, .slice Auk kk_.length cuk, .slice Avv vs_.length cvv, .slice Avc cs_.length cvc] 25 (0, 0)) from blk_put B7.out 1 _ rfl)
    have XB1 := Aside0.mk (show (w7.setCell ⟨g7, 1, none⟩ (.slice Auk kk_.length cuk)).heap[g1]? = some (.cells #[.bool false, .slice A1 Ks.length c1, .slice A2 Vs.length c2, .slice A3 Cs.length c3] 25 (0, 0)) from blk_far B1.out NE1.out _)
    have XB2 := Aside0.mk (show (w7.setCell ⟨g7, 1, none⟩ (.slice Auk kk_.length cuk)).heap[g2]? = some (.cells #[.bool false, .slice A4 Ls.length c4, .slice A5 Us.length c5, .slice A6 Ds.length c6] 25 (0, 0)) from blk_far B2.out NE2.out _)
    have XB4 := Aside0.mk (show (w7.setCell ⟨g7, 1, none⟩ (.slice Auk kk_.length cuk)).heap[g4]? = some (.cells #[.bool false, .slice none 0 0, .slice none 0 0, .slice none 0 0] 25 (0, 0)) from blk_far B4.out NE4.out _)
    have XHU := Aside0.mk (show Kd.R Kd.string 9 (w7.setCell ⟨g7, 1, none⟩ (.slice Auk kk_.length cuk)) w.heap.size (fun _ => True) (.slice Auk kk_.length cuk) kk_ from set1_R HU.out B7.out (by decide))
    have XHV := Aside0.mk (show Kd.R Kd.string 9 (w7.setCell ⟨g7, 1, none⟩ (.slice Auk kk_.length cuk)) w.heap.size (fun _ => True) (.slice Avv vs_.length cvv) vs_ from set1_R HV.out B7.out (by decide))
    have XHC := Aside0.mk (show Kd.R (Kd.int .i64) 3 (w7.setCell ⟨g7, 1, none⟩ (.slice Auk kk_.length cuk)) w.heap.size (fun _ => True) (.slice Avc cs_.length cvc) cs_ from set1_R HC.out B7.out (by decide))
    have XB := Aside0.mk (show Below w.heap.size w (w7.setCell ⟨g7, 1, none⟩ (.slice Auk kk_.length cuk)) from below_set HB.out G7.out)
    clear B7 B1 B2 B4 HU HV HC HB
    have B7 := X7
    have B1 := XB1
    have B2 := XB2
    have B4 := XB4
    have HU := XHU
    have HV := XHV
    have HC := XHC
    have HB := XB
    clear X7 XB1 XB2 XB4 XHU XHV XHC XB
    generalize w7.setCell ⟨g7, 1, none⟩ (.slice Auk kk_.length cuk) = q7 at *
    have y0 : q7.cell? ⟨g7, 0, none⟩ = some (.bool false) := (blk_cell B7.out 0).trans rfl
    have y1 : q7.cell? ⟨g7, 1, none⟩ = some (.slice Auk kk_.length cuk) := (blk_cell B7.out 1).trans rfl
    have y2 : q7.cell? ⟨g7, 2, none⟩ = some (.slice Avv vs_.length cvv) := (blk_cell B7.out 2).trans rfl
    have y3 : q7.cell? ⟨g7, 3, none⟩ = some (.slice Avc cs_.length cvc) := (blk_cell B7.out 3).trans rfl
    cases b3_
    case false =>
      rw [if_neg (by simp)] at h
      rw [Option.some.injEq] at h
      simp only [Prod.mk.injEq] at h
      obtain ⟨rfl, rfl, rfl, rfl, rfl⟩ := h
      go_wp2_with (go_at_call 32; refine (node_stands.calls k false _ _ kk_ _ _ vs_ _ _ cs_ false _ (by repeat (first | exact (Kd.R_reads' HU.out).2.2 | (with_reducible refine Kd.C_alloc ?_ _) | (with_reducible refine Kd.C_drewN ?_ _) | (with_reducible refine Kd.C_drew ?_))) (Kd.R_reads' HU.out).2.1 (by repeat (first | exact (Kd.R_reads' HV.out).2.2 | (with_reducible refine Kd.C_alloc ?_ _) | (with_reducible refine Kd.C_drewN ?_ _) | (with_reducible refine Kd.C_drew ?_))) (Kd.R_reads' HV.out).2.1 (by repeat (first | exact (Kd.R_reads' HC.out).2.2 | (with_reducible refine Kd.C_alloc ?_ _) | (with_reducible refine Kd.C_drewN ?_ _) | (with_reducible refine Kd.C_drew ?_))) (Kd.R_reads' HC.out).2.1 T5.out).mono ?_; rintro e w8 ⟨rfl, hb⟩; have XB4 := Aside0.mk (blk_below (o := .cells #[.bool false, .slice none 0 0, .slice none 0 0, .slice none 0 0] 25 (0, 0)) (by (with_reducible repeat (first | refine blk_drewN ?_ _ | refine blk_drew ?_ | refine blk_alloc ?_ _)); exact B4.out) hb); have XB7 := Aside0.mk (blk_below (o := .cells #[.bool false, .slice Auk kk_.length cuk, .slice Avv vs_.length cvv, .slice Avc cs_.length cvc] 25 (0, 0)) (by (with_reducible repeat (first | refine blk_drewN ?_ _ | refine blk_drew ?_ | refine blk_alloc ?_ _)); exact B7.out) hb); have XK := Aside0.mk (Kd.R_below (by (with_reducible repeat (first | apply Kd.R_alloc | apply Kd.R_drewN | apply Kd.R_drew)); exact HU.out) hb); have XV := Aside0.mk (Kd.R_below (by (with_reducible repeat (first | apply Kd.R_alloc | apply Kd.R_drewN | apply Kd.R_drew)); exact HV.out) hb); have XC := Aside0.mk (Kd.R_below (by (with_reducible repeat (first | apply Kd.R_alloc | apply Kd.R_drewN | apply Kd.R_drew)); exact HC.out) hb); have XB := Aside0.mk (below_step (by repeat (first | (with_reducible first | exact HB.out | apply below_alloc | apply pw_below_drewN | apply below_drew1) | exact HB.out)) hb); clear hb; clear B4 B7 HU HV HC HB; have B4 := XB4; have B7 := XB7; have HU := XK; have HV := XV; have HC := XC; have HB := XB; clear XB4 XB7 XK XV XC XB; have y0 : w8.cell? ⟨g7, 0, none⟩ = some (.bool false) := (blk_cell B7.out 0).trans rfl; have y1 : w8.cell? ⟨g7, 1, none⟩ = some (.slice Auk kk_.length cuk) := (blk_cell B7.out 1).trans rfl; have y2 : w8.cell? ⟨g7, 2, none⟩ = some (.slice Avv vs_.length cvv) := (blk_cell B7.out 2).trans rfl; have y3 : w8.cell? ⟨g7, 3, none⟩ = some (.slice Avc cs_.length cvc) := (blk_cell B7.out 3).trans rfl; have z0 : w8.cell? ⟨g4, 0, none⟩ = some (.bool false) := (blk_cell B4.out 0).trans rfl; have z1 : w8.cell? ⟨g4, 1, none⟩ = some (.slice none 0 0) := (blk_cell B4.out 1).trans rfl; have z2 : w8.cell? ⟨g4, 2, none⟩ = some (.slice none 0 0) := (blk_cell B4.out 2).trans rfl; have z3 : w8.cell? ⟨g4, 3, none⟩ = some (.slice none 0 0) := (blk_cell B4.out 3).trans rfl; have zf0 := blk_frozen B4.out 0; have zf1 := blk_frozen B4.out 1; have zf2 := blk_frozen B4.out 2; have zf3 := blk_frozen B4.out 3)
      all_goals (refine bodyPost_ret (results_list (rs := [.cell 6 25, .tmp 7]) rfl (by simp) (.cell g4 25 #[.bool false, .slice none 0 0, .slice none 0 0, .slice none 0 0] (0, 0) _ rfl (set4_put B4.out) Try.underlying25 rfl (by kernel_rfl) (.tmp .nil))) rfl ?_; exact ⟨_, _, _, rfl, Kd.R_nil _ _ _ _ _, Kd.R_nil _ _ _ _ _, Kd.R_nil _ _ _ _ _, set4_below HB.out G4.out⟩)
    case true =>
      rw [if_pos rfl] at h
      rw [Option.some.injEq] at h
      simp only [Prod.mk.injEq] at h
      obtain ⟨rfl, rfl, rfl, rfl, rfl⟩ := h
      go_wp2_with (go_at_call 32; refine (node_stands.calls k false _ _ kk_ _ _ vs_ _ _ cs_ true _ (by repeat (first | exact (Kd.R_reads' HU.out).2.2 | (with_reducible refine Kd.C_alloc ?_ _) | (with_reducible refine Kd.C_drewN ?_ _) | (with_reducible refine Kd.C_drew ?_))) (Kd.R_reads' HU.out).2.1 (by repeat (first | exact (Kd.R_reads' HV.out).2.2 | (with_reducible refine Kd.C_alloc ?_ _) | (with_reducible refine Kd.C_drewN ?_ _) | (with_reducible refine Kd.C_drew ?_))) (Kd.R_reads' HV.out).2.1 (by repeat (first | exact (Kd.R_reads' HC.out).2.2 | (with_reducible refine Kd.C_alloc ?_ _) | (with_reducible refine Kd.C_drewN ?_ _) | (with_reducible refine Kd.C_drew ?_))) (Kd.R_reads' HC.out).2.1 T5.out).mono ?_; rintro e w8 ⟨rfl, hb⟩; have XB4 := Aside0.mk (blk_below (o := .cells #[.bool false, .slice none 0 0, .slice none 0 0, .slice none 0 0] 25 (0, 0)) (by (with_reducible repeat (first | refine blk_drewN ?_ _ | refine blk_drew ?_ | refine blk_alloc ?_ _)); exact B4.out) hb); have XB7 := Aside0.mk (blk_below (o := .cells #[.bool false, .slice Auk kk_.length cuk, .slice Avv vs_.length cvv, .slice Avc cs_.length cvc] 25 (0, 0)) (by (with_reducible repeat (first | refine blk_drewN ?_ _ | refine blk_drew ?_ | refine blk_alloc ?_ _)); exact B7.out) hb); have XK := Aside0.mk (Kd.R_below (by (with_reducible repeat (first | apply Kd.R_alloc | apply Kd.R_drewN | apply Kd.R_drew)); exact HU.out) hb); have XV := Aside0.mk (Kd.R_below (by (with_reducible repeat (first | apply Kd.R_alloc | apply Kd.R_drewN | apply Kd.R_drew)); exact HV.out) hb); have XC := Aside0.mk (Kd.R_below (by (with_reducible repeat (first | apply Kd.R_alloc | apply Kd.R_drewN | apply Kd.R_drew)); exact HC.out) hb); have XB := Aside0.mk (below_step (by repeat (first | (with_reducible first | exact HB.out | apply below_alloc | apply pw_below_drewN | apply below_drew1) | exact HB.out)) hb); clear hb; clear B4 B7 HU HV HC HB; have B4 := XB4; have B7 := XB7; have HU := XK; have HV := XV; have HC := XC; have HB := XB; clear XB4 XB7 XK XV XC XB; have y0 : w8.cell? ⟨g7, 0, none⟩ = some (.bool false) := (blk_cell B7.out 0).trans rfl; have y1 : w8.cell? ⟨g7, 1, none⟩ = some (.slice Auk kk_.length cuk) := (blk_cell B7.out 1).trans rfl; have y2 : w8.cell? ⟨g7, 2, none⟩ = some (.slice Avv vs_.length cvv) := (blk_cell B7.out 2).trans rfl; have y3 : w8.cell? ⟨g7, 3, none⟩ = some (.slice Avc cs_.length cvc) := (blk_cell B7.out 3).trans rfl; have z0 : w8.cell? ⟨g4, 0, none⟩ = some (.bool false) := (blk_cell B4.out 0).trans rfl; have z1 : w8.cell? ⟨g4, 1, none⟩ = some (.slice none 0 0) := (blk_cell B4.out 1).trans rfl; have z2 : w8.cell? ⟨g4, 2, none⟩ = some (.slice none 0 0) := (blk_cell B4.out 2).trans rfl; have z3 : w8.cell? ⟨g4, 3, none⟩ = some (.slice none 0 0) := (blk_cell B4.out 3).trans rfl; have zf0 := blk_frozen B4.out 0; have zf1 := blk_frozen B4.out 1; have zf2 := blk_frozen B4.out 2; have zf3 := blk_frozen B4.out 3)
      all_goals (refine bodyPost_ret (results_list (rs := [.cell 6 25, .tmp 7]) rfl (by simp) (.cell g4 25 #[.bool false, .slice Auk kk_.length cuk, .slice Avv vs_.length cvv, .slice Avc cs_.length cvc] (0, 0) _ rfl (set4_put B4.out) Try.underlying25 rfl (by kernel_rfl) (.tmp .nil))) rfl ?_; exact ⟨_, _, _, rfl, set4_R HU.out B4.out (by decide), set4_R HV.out B4.out (by decide), set4_R HC.out B4.out (by decide), set4_below HB.out G4.out⟩)
  case true =>
    have h := H3
    clear H3
    rw [if_pos rfl] at h
    obtain ⟨b3_, q5, h⟩ := Option.bind_eq_some_iff.1 h
    have T5 := Aside0.mk q5
    clear q5
    have y0 : q6.cell? ⟨g7, 0, none⟩ = some (.bool true) := (blk_cell B7.out 0).trans rfl
    have y1 : q6.cell? ⟨g7, 1, none⟩ = some (.slice Avk ks_.length cvk) := (blk_cell B7.out 1).trans rfl
    have y2 : q6.cell? ⟨g7, 2, none⟩ = some (.slice Avv vs_.length cvv) := (blk_cell B7.out 2).trans rfl
    have y3 : q6.cell? ⟨g7, 3, none⟩ = some (.slice Avc cs_.length cvc) := (blk_cell B7.out 3).trans rfl
    cases b3_
    case false =>
      rw [if_neg (by simp)] at h
      rw [Option.some.injEq] at h
      simp only [Prod.mk.injEq] at h
      obtain ⟨rfl, rfl, rfl, rfl, rfl⟩ := h
      go_wp2_with (go_at_call 32; refine (node_stands.calls k true _ _ ks_ _ _ vs_ _ _ cs_ false _ (by repeat (first | exact (Kd.R_reads' HK.out).2.2 | (with_reducible refine Kd.C_alloc ?_ _) | (with_reducible refine Kd.C_drewN ?_ _) | (with_reducible refine Kd.C_drew ?_))) (Kd.R_reads' HK.out).2.1 (by repeat (first | exact (Kd.R_reads' HV.out).2.2 | (with_reducible refine Kd.C_alloc ?_ _) | (with_reducible refine Kd.C_drewN ?_ _) | (with_reducible refine Kd.C_drew ?_))) (Kd.R_reads' HV.out).2.1 (by repeat (first | exact (Kd.R_reads' HC.out).2.2 | (with_reducible refine Kd.C_alloc ?_ _) | (with_reducible refine Kd.C_drewN ?_ _) | (with_reducible refine Kd.C_drew ?_))) (Kd.R_reads' HC.out).2.1 T5.out).mono ?_; rintro e w8 ⟨rfl, hb⟩; have XB4 := Aside0.mk (blk_below (o := .cells #[.bool false, .slice none 0 0, .slice none 0 0, .slice none 0 0] 25 (0, 0)) (by (with_reducible repeat (first | refine blk_drewN ?_ _ | refine blk_drew ?_ | refine blk_alloc ?_ _)); exact B4.out) hb); have XB7 := Aside0.mk (blk_below (o := .cells #[.bool true, .slice Avk ks_.length cvk, .slice Avv vs_.length cvv, .slice Avc cs_.length cvc] 25 (0, 0)) (by (with_reducible repeat (first | refine blk_drewN ?_ _ | refine blk_drew ?_ | refine blk_alloc ?_ _)); exact B7.out) hb); have XK := Aside0.mk (Kd.R_below (by (with_reducible repeat (first | apply Kd.R_alloc | apply Kd.R_drewN | apply Kd.R_drew)); exact HK.out) hb); have XV := Aside0.mk (Kd.R_below (by (with_reducible repeat (first | apply Kd.R_alloc | apply Kd.R_drewN | apply Kd.R_drew)); exact HV.out) hb); have XC := Aside0.mk (Kd.R_below (by (with_reducible repeat (first | apply Kd.R_alloc | apply Kd.R_drewN | apply Kd.R_drew)); exact HC.out) hb); have XB := Aside0.mk (below_step (by repeat (first | (with_reducible first | exact HB.out | apply below_alloc | apply pw_below_drewN | apply below_drew1) | exact HB.out)) hb); clear hb; clear B4 B7 HK HV HC HB; have B4 := XB4; have B7 := XB7; have HK := XK; have HV := XV; have HC := XC; have HB := XB; clear XB4 XB7 XK XV XC XB; have y0 : w8.cell? ⟨g7, 0, none⟩ = some (.bool true) := (blk_cell B7.out 0).trans rfl; have y1 : w8.cell? ⟨g7, 1, none⟩ = some (.slice Avk ks_.length cvk) := (blk_cell B7.out 1).trans rfl; have y2 : w8.cell? ⟨g7, 2, none⟩ = some (.slice Avv vs_.length cvv) := (blk_cell B7.out 2).trans rfl; have y3 : w8.cell? ⟨g7, 3, none⟩ = some (.slice Avc cs_.length cvc) := (blk_cell B7.out 3).trans rfl; have z0 : w8.cell? ⟨g4, 0, none⟩ = some (.bool false) := (blk_cell B4.out 0).trans rfl; have z1 : w8.cell? ⟨g4, 1, none⟩ = some (.slice none 0 0) := (blk_cell B4.out 1).trans rfl; have z2 : w8.cell? ⟨g4, 2, none⟩ = some (.slice none 0 0) := (blk_cell B4.out 2).trans rfl; have z3 : w8.cell? ⟨g4, 3, none⟩ = some (.slice none 0 0) := (blk_cell B4.out 3).trans rfl; have zf0 := blk_frozen B4.out 0; have zf1 := blk_frozen B4.out 1; have zf2 := blk_frozen B4.out 2; have zf3 := blk_frozen B4.out 3)
      all_goals (refine bodyPost_ret (results_list (rs := [.cell 6 25, .tmp 7]) rfl (by simp) (.cell g4 25 #[.bool false, .slice none 0 0, .slice none 0 0, .slice none 0 0] (0, 0) _ rfl (set4_put B4.out) Try.underlying25 rfl (by kernel_rfl) (.tmp .nil))) rfl ?_; exact ⟨_, _, _, rfl, Kd.R_nil _ _ _ _ _, Kd.R_nil _ _ _ _ _, Kd.R_nil _ _ _ _ _, set4_below HB.out G4.out⟩)
    case true =>
      rw [if_pos rfl] at h
      rw [Option.some.injEq] at h
      simp only [Prod.mk.injEq] at h
      obtain ⟨rfl, rfl, rfl, rfl, rfl⟩ := h
      go_wp2_with (go_at_call 32; refine (node_stands.calls k true _ _ ks_ _ _ vs_ _ _ cs_ true _ (by repeat (first | exact (Kd.R_reads' HK.out).2.2 | (with_reducible refine Kd.C_alloc ?_ _) | (with_reducible refine Kd.C_drewN ?_ _) | (with_reducible refine Kd.C_drew ?_))) (Kd.R_reads' HK.out).2.1 (by repeat (first | exact (Kd.R_reads' HV.out).2.2 | (with_reducible refine Kd.C_alloc ?_ _) | (with_reducible refine Kd.C_drewN ?_ _) | (with_reducible refine Kd.C_drew ?_))) (Kd.R_reads' HV.out).2.1 (by repeat (first | exact (Kd.R_reads' HC.out).2.2 | (with_reducible refine Kd.C_alloc ?_ _) | (with_reducible refine Kd.C_drewN ?_ _) | (with_reducible refine Kd.C_drew ?_))) (Kd.R_reads' HC.out).2.1 T5.out).mono ?_; rintro e w8 ⟨rfl, hb⟩; have XB4 := Aside0.mk (blk_below (o := .cells #[.bool false, .slice none 0 0, .slice none 0 0, .slice none 0 0] 25 (0, 0)) (by (with_reducible repeat (first | refine blk_drewN ?_ _ | refine blk_drew ?_ | refine blk_alloc ?_ _)); exact B4.out) hb); have XB7 := Aside0.mk (blk_below (o := .cells #[.bool true, .slice Avk ks_.length cvk, .slice Avv vs_.length cvv, .slice Avc cs_.length cvc] 25 (0, 0)) (by (with_reducible repeat (first | refine blk_drewN ?_ _ | refine blk_drew ?_ | refine blk_alloc ?_ _)); exact B7.out) hb); have XK := Aside0.mk (Kd.R_below (by (with_reducible repeat (first | apply Kd.R_alloc | apply Kd.R_drewN | apply Kd.R_drew)); exact HK.out) hb); have XV := Aside0.mk (Kd.R_below (by (with_reducible repeat (first | apply Kd.R_alloc | apply Kd.R_drewN | apply Kd.R_drew)); exact HV.out) hb); have XC := Aside0.mk (Kd.R_below (by (with_reducible repeat (first | apply Kd.R_alloc | apply Kd.R_drewN | apply Kd.R_drew)); exact HC.out) hb); have XB := Aside0.mk (below_step (by repeat (first | (with_reducible first | exact HB.out | apply below_alloc | apply pw_below_drewN | apply below_drew1) | exact HB.out)) hb); clear hb; clear B4 B7 HK HV HC HB; have B4 := XB4; have B7 := XB7; have HK := XK; have HV := XV; have HC := XC; have HB := XB; clear XB4 XB7 XK XV XC XB; have y0 : w8.cell? ⟨g7, 0, none⟩ = some (.bool true) := (blk_cell B7.out 0).trans rfl; have y1 : w8.cell? ⟨g7, 1, none⟩ = some (.slice Avk ks_.length cvk) := (blk_cell B7.out 1).trans rfl; have y2 : w8.cell? ⟨g7, 2, none⟩ = some (.slice Avv vs_.length cvv) := (blk_cell B7.out 2).trans rfl; have y3 : w8.cell? ⟨g7, 3, none⟩ = some (.slice Avc cs_.length cvc) := (blk_cell B7.out 3).trans rfl; have z0 : w8.cell? ⟨g4, 0, none⟩ = some (.bool false) := (blk_cell B4.out 0).trans rfl; have z1 : w8.cell? ⟨g4, 1, none⟩ = some (.slice none 0 0) := (blk_cell B4.out 1).trans rfl; have z2 : w8.cell? ⟨g4, 2, none⟩ = some (.slice none 0 0) := (blk_cell B4.out 2).trans rfl; have z3 : w8.cell? ⟨g4, 3, none⟩ = some (.slice none 0 0) := (blk_cell B4.out 3).trans rfl; have zf0 := blk_frozen B4.out 0; have zf1 := blk_frozen B4.out 1; have zf2 := blk_frozen B4.out 2; have zf3 := blk_frozen B4.out 3)
      all_goals (refine bodyPost_ret (results_list (rs := [.cell 6 25, .tmp 7]) rfl (by simp) (.cell g4 25 #[.bool true, .slice Avk ks_.length cvk, .slice Avv vs_.length cvv, .slice Avc cs_.length cvc] (0, 0) _ rfl (set4_put B4.out) Try.underlying25 rfl (by kernel_rfl) (.tmp .nil))) rfl ?_; exact ⟨_, _, _, rfl, set4_R HK.out B4.out (by decide), set4_R HV.out B4.out (by decide), set4_R HC.out B4.out (by decide), set4_below HB.out G4.out⟩)
end Go.Proofs.Ytmnkabdaapiikaa
