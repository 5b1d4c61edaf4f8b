/- The bytes of a node (node.Put): what the machine's call comes to, as a plain function. -/
import Derived.Test.YtmnkabdaapiikaaXText
import Derived.Test.YtmnkabdaapiikaaPx3
namespace Go.Proofs.Ytmnkabdaapiikaa
open Go.RowKit Go.Proofs.YtmnkabdaapiikaaW.PrintWords Go.Proofs.YtmnkabdaapiikaaW.PrintLast Go.Proofs.YtmnkabdaapiikaaW.PrintMore
set_option linter.unusedVariables false

/-- The keys and values of a leaf, behind what is written. -/
def putLeaf (k : Nat) : List ByteArray → List ByteArray → ByteArray → Option ByteArray
  | [], _, out => some out
  | _ :: _, [], _ => none
  | x :: xs, v :: vs, out => (textF k out x).bind fun o => (textF k o v).bind fun o' => putLeaf k xs vs o'
/-- The children and keys of an inner node, behind what is written. -/
def putKid (k : Nat) : List Int → List ByteArray → ByteArray → Option ByteArray
  | [], _, out => some out
  | b :: bs, [], out => (P.code_Put.f k b 2).bind fun t => (code_All.f [out, t.1]).bind fun o => putKid k bs [] o
  | b :: bs, x :: xs, out => (P.code_Put.f k b 2).bind fun t => (code_All.f [out, t.1]).bind fun o => (textF k o x).bind fun o' => putKid k bs xs o'
def node_Put.f (k : Nat) (leaf : Bool) (keys vals : List ByteArray) (kids : List Int) : Option (ByteArray × Int) :=
  (P.node_Right.f k leaf keys vals kids true).bind fun b => if b = false then some (⟨#[]⟩, 1) else
    (P.code_Put.f k (keys.length : Int) 1).bind fun t => (if leaf = true then (if keys.length ≤ 100000 then putLeaf k keys vals t.1 else none) else (if kids.length ≤ 100000 then putKid k kids keys t.1 else none)).map fun o => (o, (0 : Int))
theorem textF_mono (out s : ByteArray) (k : Nat) : LeO (textF k out s) (textF (k + 1) out s) := LeO.bind (P.code_Text.mono _ _) fun _ => LeO.refl _
theorem putLeaf_mono (k : Nat) : ∀ ks vs o, LeO (putLeaf k ks vs o) (putLeaf (k + 1) ks vs o)
  | [], _, _ => LeO.refl _
  | _ :: _, [], _ => LeO.refl _
  | x :: xs, v :: vs, o => by
    rw [putLeaf, putLeaf]
    exact LeO.bind (textF_mono _ _ _) fun _ => LeO.bind (textF_mono _ _ _) fun _ => putLeaf_mono k xs vs _
theorem putKid_mono (k : Nat) : ∀ bs ks o, LeO (putKid k bs ks o) (putKid (k + 1) bs ks o)
  | [], _, _ => LeO.refl _
  | b :: bs, [], o => by
    rw [putKid, putKid]
    exact LeO.bind (P.code_Put.mono _ _ _) fun _ => LeO.bind (LeO.refl _) fun _ => putKid_mono k bs [] _
  | b :: bs, x :: xs, o => by
    rw [putKid, putKid]
    exact LeO.bind (P.code_Put.mono _ _ _) fun _ => LeO.bind (LeO.refl _) fun _ => LeO.bind (textF_mono _ _ _) fun _ => putKid_mono k bs xs _
theorem node_Put.mono : ∀ a0 a1 a2 a3 k, LeO (node_Put.f k a0 a1 a2 a3) (node_Put.f (k + 1) a0 a1 a2 a3) := by
  intro a0 a1 a2 a3 k
  unfold node_Put.f
  refine LeO.bind (P.node_Right.mono _ _ _ _ _ _) fun b => LeO.ite (LeO.refl _) (LeO.bind (P.code_Put.mono _ _ _) fun t => ?_)
  cases a0
  · intro r h
    obtain ⟨o, ho, rfl⟩ := Option.map_eq_some_iff.1 h
    simp only [Bool.false_eq_true, if_false] at ho ⊢
    split at ho
    · rename_i hc; rw [if_pos hc, putKid_mono k _ _ _ o ho]; rfl
    · cases ho
  · intro r h
    obtain ⟨o, ho, rfl⟩ := Option.map_eq_some_iff.1 h
    simp only [if_true] at ho ⊢
    split at ho
    · rename_i hc; rw [if_pos hc, putLeaf_mono k _ _ _ o ho]; rfl
    · cases ho
theorem str_at {w : World} {A : Option Addr} {l : List ByteArray} (h : Kd.C Kd.string w A l.length l) (q : Nat) (x : ByteArray) (hx : l[q]? = some x) : ∃ ad, A = some ad ∧ w.cell? (ad.add q) = some (.string x) := by
  obtain ⟨hl, hy⟩ := List.getElem?_eq_some_iff.1 hx
  obtain ⟨ad, e, hc⟩ := Kd.at_string h (q : Int) (by omega) (by omega)
  refine ⟨ad, e, ?_⟩
  rw [Int.toNat_natCast] at hc
  simpa [rdOf, List.getD_eq_getElem?_getD, hx] using hc
theorem int_at {w : World} {A : Option Addr} {l : List Int} (h : Kd.C (Kd.int .i64) w A l.length l) (q : Nat) (x : Int) (hx : l[q]? = some x) : ∃ ad, A = some ad ∧ w.cell? (ad.add q) = some (.int .i64 x) := by
  obtain ⟨hl, hy⟩ := List.getElem?_eq_some_iff.1 hx
  obtain ⟨ad, e, hc⟩ := Kd.at_int h (q : Int) (by omega) (by omega)
  refine ⟨ad, e, ?_⟩
  rw [Int.toNat_natCast] at hc
  simpa [rd, List.getD_eq_getElem?_getD, hx] using hc
theorem putLeaf_step {k : Nat} {ks vs : List ByteArray} {q : Nat} {ob o : ByteArray} (h : putLeaf k (ks.drop q) (vs.drop q) ob = some o) (hq : q < ks.length) :
    ∃ x v o1 o2, ks[q]? = some x ∧ vs[q]? = some v ∧ textF k ob x = some o1 ∧ textF k o1 v = some o2 ∧ putLeaf k (ks.drop (q + 1)) (vs.drop (q + 1)) o2 = some o := by
  rw [List.drop_eq_getElem_cons hq] at h
  by_cases hv : q < vs.length
  · rw [List.drop_eq_getElem_cons hv, putLeaf] at h
    obtain ⟨o1, h1, h⟩ := Option.bind_eq_some_iff.1 h
    obtain ⟨o2, h2, h⟩ := Option.bind_eq_some_iff.1 h
    exact ⟨_, _, o1, o2, List.getElem?_eq_getElem hq, List.getElem?_eq_getElem hv, h1, h2, h⟩
  · have e : vs.drop q = [] := List.drop_eq_nil_of_le (by omega)
    rw [e, putLeaf] at h
    cases h
theorem putKid_step {k : Nat} {bs : List Int} {ks : List ByteArray} {q : Nat} {ob o : ByteArray} (h : putKid k (bs.drop q) (ks.drop q) ob = some o) (hq : q < bs.length) :
    ∃ b t te o1, bs[q]? = some b ∧ P.code_Put.f k b 2 = some (t, te) ∧ code_All.f [ob, t] = some o1 ∧
      if q < ks.length then ∃ x o2, ks[q]? = some x ∧ textF k o1 x = some o2 ∧ putKid k (bs.drop (q + 1)) (ks.drop (q + 1)) o2 = some o else putKid k (bs.drop (q + 1)) (ks.drop (q + 1)) o1 = some o := by
  rw [List.drop_eq_getElem_cons hq] at h
  by_cases hv : q < ks.length
  · rw [List.drop_eq_getElem_cons hv, putKid] at h
    obtain ⟨⟨t, te⟩, h0, h⟩ := Option.bind_eq_some_iff.1 h
    obtain ⟨o1, h1, h⟩ := Option.bind_eq_some_iff.1 h
    obtain ⟨o2, h2, h⟩ := Option.bind_eq_some_iff.1 h
    refine ⟨_, t, te, o1, List.getElem?_eq_getElem hq, h0, h1, ?_⟩
    rw [if_pos hv]
    exact ⟨_, o2, List.getElem?_eq_getElem hv, h2, h⟩
  · have e : ks.drop q = [] := List.drop_eq_nil_of_le (by omega)
    have e1 : ks.drop (q + 1) = [] := List.drop_eq_nil_of_le (by omega)
    rw [e, putKid] at h
    obtain ⟨⟨t, te⟩, h0, h⟩ := Option.bind_eq_some_iff.1 h
    obtain ⟨o1, h1, h⟩ := Option.bind_eq_some_iff.1 h
    refine ⟨_, t, te, o1, List.getElem?_eq_getElem hq, h0, h1, ?_⟩
    rw [if_neg hv, e1]
    exact h
set_option maxHeartbeats 4000000 in
set_option maxRecDepth 100000 in
theorem node_Put.calls (k : Nat) (leaf : Bool) (A1 : Option Addr) (c1 : Nat) (keys : List ByteArray) (A2 : Option Addr) (c2 : Nat) (vals : List ByteArray) (A3 : Option Addr) (c3 : Nat) (kids : List Int) (r1 : ByteArray) (r2 : Int) (w : World)
    (hr1 : Kd.C Kd.string w A1 keys.length keys) (hc1 : keys.length ≤ c1) (hr2 : Kd.C Kd.string w A2 vals.length vals) (hc2 : vals.length ≤ c2) (hr3 : Kd.C (Kd.int .i64) w A3 kids.length kids) (hc3 : kids.length ≤ c3) (h : node_Put.f k leaf keys vals kids = some (r1, r2)) :
    Calls Try.prog 11 #[.agg #[.bool leaf, .slice A1 keys.length c1, .slice A2 vals.length c2, .slice A3 kids.length c3]] w fun e w' => e = .returned (.tuple #[.string r1, .int .i64 r2]) ∧ Below w.heap.size w w' := by
  unfold node_Put.f at h
  obtain ⟨BV, h1, h⟩ := Option.bind_eq_some_iff.1 h
  have hu25 := Try.underlying25
  have HR1 := Aside0.mk hr1
  have HR2 := Aside0.mk hr2
  have HR3 := Aside0.mk hr3
  have HC1 := Aside0.mk hc1
  have HC2 := Aside0.mk hc2
  have HC3 := Aside0.mk hc3
  have H1 := Aside0.mk h1
  have HB := Aside0.mk (Below.refl w.heap.size w)
  clear hr1 hr2 hr3 hc1 hc2 hc3 h1
  cases BV
  · rw [if_pos rfl] at h
    simp only [Option.some.injEq, Prod.mk.injEq] at h
    obtain ⟨rfl, rfl⟩ := h
    go_enter Try.func11, Try.ntmps11
    go_wp2_with (first | ((with_reducible refine gate_dst (N := 1) rfl ?_); refine box_event ?hg (N := 1) ?hd (cs := #[.bool leaf, .slice A1 keys.length c1, .slice A2 vals.length c2, .slice A3 kids.length c3]) (t := 25) ?hr ?_; (case hd => rfl); (case hg => rfl); (case hr => first | (go_simp; done) | (go_simp; rfl)); intro g1 hg w1 hbox hb; have G1 := Aside0.mk (show w.heap.size ≤ g1 by rw [hg]; exact below_size (by repeat (first | (with_reducible first | exact HB.out | apply below_alloc | apply pw_below_drewN | apply below_drew1) | exact HB.out))); have NB := Aside0.mk (below_step (by repeat (first | (with_reducible first | exact HB.out | apply below_alloc | apply pw_below_drewN | apply below_drew1) | exact HB.out)) hb); clear HB; have HB := NB; have B1 := Aside0.mk hbox; clear NB hb hbox hg; have b0 : w1.cell? ⟨g1, 0, none⟩ = some (.bool leaf) := (blk_cell B1.out 0).trans rfl; have b1 : w1.cell? ⟨g1, 1, none⟩ = some (.slice A1 keys.length c1) := (blk_cell B1.out 1).trans rfl; have b2 : w1.cell? ⟨g1, 2, none⟩ = some (.slice A2 vals.length c2) := (blk_cell B1.out 2).trans rfl; have b3 : w1.cell? ⟨g1, 3, none⟩ = some (.slice A3 kids.length c3) := (blk_cell B1.out 3).trans rfl) | (go_at_call 14; refine (P.node_Right.calls k leaf A1 c1 keys A2 c2 vals A3 c3 kids true _ _ (Kd.C_below HR1.out (by repeat (first | (with_reducible first | exact HB.out | apply below_alloc | apply pw_below_drewN | apply below_drew1) | exact HB.out))) HC1.out (Kd.C_below HR2.out (by repeat (first | (with_reducible first | exact HB.out | apply below_alloc | apply pw_below_drewN | apply below_drew1) | exact HB.out))) HC2.out (Kd.C_below HR3.out (by repeat (first | (with_reducible first | exact HB.out | apply below_alloc | apply pw_below_drewN | apply below_drew1) | exact HB.out))) HC3.out H1.out).mono ?_; rintro e w2 ⟨rfl, hb⟩; have X1 := Aside0.mk (blk_below (o := .cells #[.bool leaf, .slice A1 keys.length c1, .slice A2 vals.length c2, .slice A3 kids.length c3] 25 (0, 0)) (by (with_reducible repeat (first | refine blk_drewN ?_ _ | refine blk_drew ?_ | refine blk_alloc ?_ _)); exact B1.out) hb); clear B1; have B1 := X1; clear X1; have NB := Aside0.mk (below_step (by repeat (first | (with_reducible first | exact HB.out | apply below_alloc | apply pw_below_drewN | apply below_drew1) | exact HB.out)) hb); clear HB; have HB := NB; clear NB hb; have b0 : w2.cell? ⟨g1, 0, none⟩ = some (.bool leaf) := (blk_cell B1.out 0).trans rfl; have b1 : w2.cell? ⟨g1, 1, none⟩ = some (.slice A1 keys.length c1) := (blk_cell B1.out 1).trans rfl; have b2 : w2.cell? ⟨g1, 2, none⟩ = some (.slice A2 vals.length c2) := (blk_cell B1.out 2).trans rfl; have b3 : w2.cell? ⟨g1, 3, none⟩ = some (.slice A3 kids.length c3) := (blk_cell B1.out 3).trans rfl))
    go_ret2
    exact ⟨rfl, HB.out⟩
  rw [if_neg (by simp)] at h
  obtain ⟨⟨t, te⟩, h2, h⟩ := Option.bind_eq_some_iff.1 h
  obtain ⟨o, ho, he⟩ := Option.map_eq_some_iff.1 h
  simp only [Prod.mk.injEq] at he
  obtain ⟨rfl, rfl⟩ := he
  have H2 := Aside0.mk h2
  have HO := Aside0.mk ho
  clear h2 h ho
  go_enter Try.func11, Try.ntmps11
  cases leaf
  · go_upto_region 4 with (first | ((with_reducible refine gate_dst (N := 1) rfl ?_); refine box_event ?hg (N := 1) ?hd (cs := #[.bool false, .slice A1 keys.length c1, .slice A2 vals.length c2, .slice A3 kids.length c3]) (t := 25) ?hr ?_; (case hd => rfl); (case hg => rfl); (case hr => first | (go_simp; done) | (go_simp; rfl)); intro g1 hg w1 hbox hb; have G1 := Aside0.mk (show w.heap.size ≤ g1 by rw [hg]; exact below_size (by repeat (first | (with_reducible first | exact HB.out | apply below_alloc | apply pw_below_drewN | apply below_drew1) | exact HB.out))); have NB := Aside0.mk (below_step (by repeat (first | (with_reducible first | exact HB.out | apply below_alloc | apply pw_below_drewN | apply below_drew1) | exact HB.out)) hb); clear HB; have HB := NB; have B1 := Aside0.mk hbox; clear NB hb hbox hg; have b0 : w1.cell? ⟨g1, 0, none⟩ = some (.bool false) := (blk_cell B1.out 0).trans rfl; have b1 : w1.cell? ⟨g1, 1, none⟩ = some (.slice A1 keys.length c1) := (blk_cell B1.out 1).trans rfl; have b2 : w1.cell? ⟨g1, 2, none⟩ = some (.slice A2 vals.length c2) := (blk_cell B1.out 2).trans rfl; have b3 : w1.cell? ⟨g1, 3, none⟩ = some (.slice A3 kids.length c3) := (blk_cell B1.out 3).trans rfl) | (go_at_call 14; refine (P.node_Right.calls k false A1 c1 keys A2 c2 vals A3 c3 kids true _ _ (Kd.C_below HR1.out (by repeat (first | (with_reducible first | exact HB.out | apply below_alloc | apply pw_below_drewN | apply below_drew1) | exact HB.out))) HC1.out (Kd.C_below HR2.out (by repeat (first | (with_reducible first | exact HB.out | apply below_alloc | apply pw_below_drewN | apply below_drew1) | exact HB.out))) HC2.out (Kd.C_below HR3.out (by repeat (first | (with_reducible first | exact HB.out | apply below_alloc | apply pw_below_drewN | apply below_drew1) | exact HB.out))) HC3.out H1.out).mono ?_; rintro e w2 ⟨rfl, hb⟩; have X1 := Aside0.mk (blk_below (o := .cells #[.bool false, .slice A1 keys.length c1, .slice A2 vals.length c2, .slice A3 kids.length c3] 25 (0, 0)) (by (with_reducible repeat (first | refine blk_drewN ?_ _ | refine blk_drew ?_ | refine blk_alloc ?_ _)); exact B1.out) hb); clear B1; have B1 := X1; clear X1; have NB := Aside0.mk (below_step (by repeat (first | (with_reducible first | exact HB.out | apply below_alloc | apply pw_below_drewN | apply below_drew1) | exact HB.out)) hb); clear HB; have HB := NB; clear NB hb; have b0 : w2.cell? ⟨g1, 0, none⟩ = some (.bool false) := (blk_cell B1.out 0).trans rfl; have b1 : w2.cell? ⟨g1, 1, none⟩ = some (.slice A1 keys.length c1) := (blk_cell B1.out 1).trans rfl; have b2 : w2.cell? ⟨g1, 2, none⟩ = some (.slice A2 vals.length c2) := (blk_cell B1.out 2).trans rfl; have b3 : w2.cell? ⟨g1, 3, none⟩ = some (.slice A3 kids.length c3) := (blk_cell B1.out 3).trans rfl) | (go_at_call 28; refine (P.code_Put.calls k (keys.length : Int) 1 t te _ H2.out).mono ?_; rintro e w3 ⟨rfl, hb⟩; have X1 := Aside0.mk (blk_below (o := .cells #[.bool false, .slice A1 keys.length c1, .slice A2 vals.length c2, .slice A3 kids.length c3] 25 (0, 0)) (by (with_reducible repeat (first | refine blk_drewN ?_ _ | refine blk_drew ?_ | refine blk_alloc ?_ _)); exact B1.out) hb); clear B1; have B1 := X1; clear X1; have NB := Aside0.mk (below_step (by repeat (first | (with_reducible first | exact HB.out | apply below_alloc | apply pw_below_drewN | apply below_drew1) | exact HB.out)) hb); clear HB; have HB := NB; clear NB hb; have b0 : w3.cell? ⟨g1, 0, none⟩ = some (.bool false) := (blk_cell B1.out 0).trans rfl; have b1 : w3.cell? ⟨g1, 1, none⟩ = some (.slice A1 keys.length c1) := (blk_cell B1.out 1).trans rfl; have b2 : w3.cell? ⟨g1, 2, none⟩ = some (.slice A2 vals.length c2) := (blk_cell B1.out 2).trans rfl; have b3 : w3.cell? ⟨g1, 3, none⟩ = some (.slice A3 kids.length c3) := (blk_cell B1.out 3).trans rfl))
    have B4 := Aside0.mk (blk_new w3 (.cells #[.string t] 9 (0, 0)))
    have X1 := Aside0.mk (blk_alloc B1.out (.cells #[.string t] 9 (0, 0)))
    have X2 := Aside0.mk (show Below w.heap.size w (w3.alloc (.cells #[.string t] 9 (0, 0))) from below_alloc HB.out _)
    have N14 := Aside0.mk (show g1 ≠ w3.heap.size from Nat.ne_of_lt (blk_lt B1.out))
    have G4 := Aside0.mk (show w.heap.size ≤ w3.heap.size from below_size HB.out)
    clear B1 HB b0 b1 b2 b3
    have B1 := X1
    have HB := X2
    clear X1 X2
    generalize w3.alloc (.cells #[.string t] 9 (0, 0)) = w4 at *
    generalize w3.heap.size = g4 at *
    have b0 : w4.cell? ⟨g1, 0, none⟩ = some (.bool false) := (blk_cell B1.out 0).trans rfl; have b1 : w4.cell? ⟨g1, 1, none⟩ = some (.slice A1 keys.length c1) := (blk_cell B1.out 1).trans rfl; have b2 : w4.cell? ⟨g1, 2, none⟩ = some (.slice A2 vals.length c2) := (blk_cell B1.out 2).trans rfl; have b3 : w4.cell? ⟨g1, 3, none⟩ = some (.slice A3 kids.length c3) := (blk_cell B1.out 3).trans rfl
    have hm : kids.length ≤ 100000 := by
      have := HO.out
      by_cases hc : kids.length ≤ 100000
      · exact hc
      · simp [hc] at this
    have HO' := Aside0.mk (show putKid k kids keys t = some o by simpa [hm] using HO.out)
    have HM := Aside0.mk hm
    clear hm
    clear HO
    have HO := HO'
    clear HO'
    go_wp2
    clear b0 b1 b2 b3
    go_loopw [49] (fun i wr => ∃ (q : Nat) (ob : ByteArray), i = .int .i64 q ∧ q ≤ kids.length ∧ Aside0 (putKid k (kids.drop q) (keys.drop q) ob = some o) ∧ Aside0 (wr.heap[g1]? = some (.cells #[.bool false, .slice A1 keys.length c1, .slice A2 vals.length c2, .slice A3 kids.length c3] 25 (0, 0))) ∧ Aside0 (wr.heap[g4]? = some (.cells #[.string ob] 9 (0, 0))) ∧ Aside0 (Below w.heap.size w wr)) (fun i _ => kids.length - (intOf i).toNat)
    case atStart => exact ⟨0, t, rfl, Nat.zero_le _, HO, B1, B4, HB⟩
    case round =>
      clear B1 B4 HB HO
      obtain ⟨q, ob, rfl, hq, HS, B1, B4, HB⟩ := hrel
      by_cases hlt : q < kids.length
      · obtain ⟨b, tb, tbe, o1, hx, h0, h1, hs⟩ := putKid_step HS.out hlt
        obtain ⟨ad, rfl, hcx⟩ := int_at (Kd.C_below HR3.out HB.out) q b hx
        have EW : wrap64 ((q : Int) + 1) = ((q + 1 : Nat) : Int) := by have := HM.out; unfold wrap64; omega
        have T0 := Aside0.mk h0
        have T1 := Aside0.mk h1
        clear h0 h1 hx HS
        go_upto_region 17 with (go_at_call 28; refine (P.code_Put.calls k b 2 tb tbe _ T0.out).mono ?_; rintro e w5 ⟨rfl, hb⟩; have X4 := Aside0.mk (blk_below (o := .cells #[.string ob] 9 (0, 0)) (by (with_reducible repeat (first | refine blk_drewN ?_ _ | refine blk_drew ?_ | refine blk_alloc ?_ _)); exact B4.out) hb); have X1 := Aside0.mk (blk_below (o := .cells #[.bool false, .slice A1 keys.length c1, .slice A2 vals.length c2, .slice (some ad) kids.length c3] 25 (0, 0)) (by (with_reducible repeat (first | refine blk_drewN ?_ _ | refine blk_drew ?_ | refine blk_alloc ?_ _)); exact B1.out) hb); have XB := Aside0.mk (below_step (by repeat (first | (with_reducible first | exact HB.out | apply below_alloc | apply pw_below_drewN | apply below_drew1) | exact HB.out)) hb); clear B1 B4 HB; have B1 := X1; have B4 := X4; have HB := XB; clear X1 X4 XB hb)
        have b4 : w5.cell? ⟨g4, 0, none⟩ = some (.string ob) := (blk_cell B4.out 0).trans rfl
        go_upto_region 18 with (first | ((with_reducible refine gate_dst (N := 61) rfl ?_); refine Kd.R_lit Kd.string _ 9 ?hg (N := 61) ?hd (xs := ([ob, tb] : List ByteArray)) (inner := [.string ob, .string tb]) (ok := fun _ => True) (okp := fun _ => True) ?hr ?hp (fun _ hk => hk) trivial (Below.refl _ _) (Nat.le_refl _) (by simp) ?_; (case hd => rfl); (case hg => rfl); (case hr => first | (go_simp; done) | (go_simp; rfl)); (case hp => exact (Reps.one (show Kd.M Kd.string _ _ _ ob [.string ob] from rfl) (Reps.one (show Kd.M Kd.string _ _ _ tb [.string tb] from rfl) (Reps.none _ _)))); intro v61 w6 ho7 hb hg_ hnew_; clear hg_ hnew_; have HOO := Aside0.mk ho7; have X4 := Aside0.mk (blk_below (o := .cells #[.string ob] 9 (0, 0)) (by (with_reducible repeat (first | refine blk_drewN ?_ _ | refine blk_drew ?_ | refine blk_alloc ?_ _)); exact B4.out) hb); have X1 := Aside0.mk (blk_below (o := .cells #[.bool false, .slice A1 keys.length c1, .slice A2 vals.length c2, .slice (some ad) kids.length c3] 25 (0, 0)) (by (with_reducible repeat (first | refine blk_drewN ?_ _ | refine blk_drew ?_ | refine blk_alloc ?_ _)); exact B1.out) hb); have XB := Aside0.mk (below_step (by repeat (first | (with_reducible first | exact HB.out | apply below_alloc | apply pw_below_drewN | apply below_drew1) | exact HB.out)) hb); clear B1 B4 HB; have B1 := X1; have B4 := X4; have HB := XB; clear X1 X4 XB hb; clear ho7; obtain ⟨Ao8, co8, eo8⟩ := Kd.R_slice HOO.out; subst eo8) | (go_at_call 31; refine (code_All.calls _ _ [ob, tb] o1 _ (by repeat (first | exact (Kd.R_reads' HOO.out).2.2 | (with_reducible refine Kd.C_alloc ?_ _) | (with_reducible refine Kd.C_drewN ?_ _) | (with_reducible refine Kd.C_drew ?_))) (Kd.R_reads' HOO.out).2.1 T1.out).mono ?_; rintro e w7 ⟨rfl, hb⟩; have X4 := Aside0.mk (blk_below (o := .cells #[.string ob] 9 (0, 0)) (by (with_reducible repeat (first | refine blk_drewN ?_ _ | refine blk_drew ?_ | refine blk_alloc ?_ _)); exact B4.out) hb); have X1 := Aside0.mk (blk_below (o := .cells #[.bool false, .slice A1 keys.length c1, .slice A2 vals.length c2, .slice (some ad) kids.length c3] 25 (0, 0)) (by (with_reducible repeat (first | refine blk_drewN ?_ _ | refine blk_drew ?_ | refine blk_alloc ?_ _)); exact B1.out) hb); have XB := Aside0.mk (below_step (by repeat (first | (with_reducible first | exact HB.out | apply below_alloc | apply pw_below_drewN | apply below_drew1) | exact HB.out)) hb); clear B1 B4 HB; have B1 := X1; have B4 := X4; have HB := XB; clear X1 X4 XB hb; have c4 : w7.cell? ⟨g4, 0, none⟩ = some (.string ob) := (blk_cell B4.out 0).trans rfl; have f4 := blk_frozen B4.out 0))
        have X4 := Aside0.mk (show (w7.setCell ⟨g4, 0, none⟩ (.string o1)).heap[g4]? = some (.cells #[.string o1] 9 (0, 0)) from blk_put (cs := #[.string ob]) B4.out 0 _ rfl)
        have X1 := Aside0.mk (show (w7.setCell ⟨g4, 0, none⟩ (.string o1)).heap[g1]? = some (.cells #[.bool false, .slice A1 keys.length c1, .slice A2 vals.length c2, .slice (some ad) kids.length c3] 25 (0, 0)) from blk_far B1.out N14.out _)
        have XB := Aside0.mk (show Below w.heap.size w (w7.setCell ⟨g4, 0, none⟩ (.string o1)) from below_set HB.out G4.out)
        clear B1 B4 HB c4 f4 HOO b4 hcx
        have B1 := X1
        have B4 := X4
        have HB := XB
        clear X1 X4 XB
        generalize w7.setCell ⟨g4, 0, none⟩ (.string o1) = w8 at *
        by_cases hk : q < keys.length
        · rw [if_pos hk] at hs
          obtain ⟨x, o2, hx, h2, hs⟩ := hs
          have T2 := Aside0.mk h2
          have HS' := Aside0.mk hs
          obtain ⟨ak, rfl, hck⟩ := str_at (Kd.C_below HR1.out HB.out) q x hx
          clear h2 hs hx
          have b1 : w8.cell? ⟨g1, 1, none⟩ = some (.slice (some ak) keys.length c1) := (blk_cell B1.out 1).trans rfl
          have ck : decide ((q : Int) < (keys.length : Int)) = true := decide_eq_true (by omega)
          go_upto_region 20 with (go_at_call 29; refine (text_calls k g4 o1 x o2 T2.out _ (by (with_reducible repeat (first | refine blk_drewN ?_ _ | refine blk_drew ?_ | refine blk_alloc ?_ _)); exact B4.out) w (by repeat (first | (with_reducible first | exact HB.out | apply below_alloc | apply pw_below_drewN | apply below_drew1) | exact HB.out)) G4.out).mono ?_; rintro e w9 ⟨rfl, hb4, hk, hb⟩; have X4 := Aside0.mk hb4; have X1 := Aside0.mk (KeepBut.blk (o := .cells #[.bool false, .slice (some ak) keys.length c1, .slice A2 vals.length c2, .slice (some ad) kids.length c3] 25 (0, 0)) hk (by (with_reducible repeat (first | refine blk_drewN ?_ _ | refine blk_drew ?_ | refine blk_alloc ?_ _)); exact B1.out) N14.out (by simp)); have XB := Aside0.mk hb; clear B1 B4 HB; have B1 := X1; have B4 := X4; have HB := XB; clear X1 X4 XB hb4 hk hb)
          go_wp2
          go_roundw
          case rel => exact ⟨q + 1, o2, by rw [EW], by omega, HS', B1, B4, HB⟩
          case measure => have := HM.out; rw [EW]; simp only [intOf]; omega
        · rw [if_neg hk] at hs
          have HS' := Aside0.mk hs
          clear hs
          have b1 : w8.cell? ⟨g1, 1, none⟩ = some (.slice A1 keys.length c1) := (blk_cell B1.out 1).trans rfl
          have ck : decide ((q : Int) < (keys.length : Int)) = false := decide_eq_false (by omega)
          go_wp2
          go_roundw
          case rel => exact ⟨q + 1, o1, by rw [EW], by omega, HS', B1, B4, HB⟩
          case measure => have := HM.out; rw [EW]; simp only [intOf]; omega
      · obtain rfl : q = kids.length := by omega
        have e1 : kids.drop kids.length = [] := List.drop_eq_nil_of_le (Nat.le_refl _)
        have hs := HS.out
        rw [e1, putKid] at hs
        obtain rfl := Option.some.inj hs
        clear hs e1 HS
        have b4 : wr.cell? ⟨g4, 0, none⟩ = some (.string ob) := (blk_cell B4.out 0).trans rfl
        go_wp2
        go_ret2
        exact ⟨rfl, HB.out⟩
  · go_upto_region 4 with (first | ((with_reducible refine gate_dst (N := 1) rfl ?_); refine box_event ?hg (N := 1) ?hd (cs := #[.bool true, .slice A1 keys.length c1, .slice A2 vals.length c2, .slice A3 kids.length c3]) (t := 25) ?hr ?_; (case hd => rfl); (case hg => rfl); (case hr => first | (go_simp; done) | (go_simp; rfl)); intro g1 hg w1 hbox hb; have G1 := Aside0.mk (show w.heap.size ≤ g1 by rw [hg]; exact below_size (by repeat (first | (with_reducible first | exact HB.out | apply below_alloc | apply pw_below_drewN | apply below_drew1) | exact HB.out))); have NB := Aside0.mk (below_step (by repeat (first | (with_reducible first | exact HB.out | apply below_alloc | apply pw_below_drewN | apply below_drew1) | exact HB.out)) hb); clear HB; have HB := NB; have B1 := Aside0.mk hbox; clear NB hb hbox hg; have b0 : w1.cell? ⟨g1, 0, none⟩ = some (.bool true) := (blk_cell B1.out 0).trans rfl; have b1 : w1.cell? ⟨g1, 1, none⟩ = some (.slice A1 keys.length c1) := (blk_cell B1.out 1).trans rfl; have b2 : w1.cell? ⟨g1, 2, none⟩ = some (.slice A2 vals.length c2) := (blk_cell B1.out 2).trans rfl; have b3 : w1.cell? ⟨g1, 3, none⟩ = some (.slice A3 kids.length c3) := (blk_cell B1.out 3).trans rfl) | (go_at_call 14; refine (P.node_Right.calls k true A1 c1 keys A2 c2 vals A3 c3 kids true _ _ (Kd.C_below HR1.out (by repeat (first | (with_reducible first | exact HB.out | apply below_alloc | apply pw_below_drewN | apply below_drew1) | exact HB.out))) HC1.out (Kd.C_below HR2.out (by repeat (first | (with_reducible first | exact HB.out | apply below_alloc | apply pw_below_drewN | apply below_drew1) | exact HB.out))) HC2.out (Kd.C_below HR3.out (by repeat (first | (with_reducible first | exact HB.out | apply below_alloc | apply pw_below_drewN | apply below_drew1) | exact HB.out))) HC3.out H1.out).mono ?_; rintro e w2 ⟨rfl, hb⟩; have X1 := Aside0.mk (blk_below (o := .cells #[.bool true, .slice A1 keys.length c1, .slice A2 vals.length c2, .slice A3 kids.length c3] 25 (0, 0)) (by (with_reducible repeat (first | refine blk_drewN ?_ _ | refine blk_drew ?_ | refine blk_alloc ?_ _)); exact B1.out) hb); clear B1; have B1 := X1; clear X1; have NB := Aside0.mk (below_step (by repeat (first | (with_reducible first | exact HB.out | apply below_alloc | apply pw_below_drewN | apply below_drew1) | exact HB.out)) hb); clear HB; have HB := NB; clear NB hb; have b0 : w2.cell? ⟨g1, 0, none⟩ = some (.bool true) := (blk_cell B1.out 0).trans rfl; have b1 : w2.cell? ⟨g1, 1, none⟩ = some (.slice A1 keys.length c1) := (blk_cell B1.out 1).trans rfl; have b2 : w2.cell? ⟨g1, 2, none⟩ = some (.slice A2 vals.length c2) := (blk_cell B1.out 2).trans rfl; have b3 : w2.cell? ⟨g1, 3, none⟩ = some (.slice A3 kids.length c3) := (blk_cell B1.out 3).trans rfl) | (go_at_call 28; refine (P.code_Put.calls k (keys.length : Int) 1 t te _ H2.out).mono ?_; rintro e w3 ⟨rfl, hb⟩; have X1 := Aside0.mk (blk_below (o := .cells #[.bool true, .slice A1 keys.length c1, .slice A2 vals.length c2, .slice A3 kids.length c3] 25 (0, 0)) (by (with_reducible repeat (first | refine blk_drewN ?_ _ | refine blk_drew ?_ | refine blk_alloc ?_ _)); exact B1.out) hb); clear B1; have B1 := X1; clear X1; have NB := Aside0.mk (below_step (by repeat (first | (with_reducible first | exact HB.out | apply below_alloc | apply pw_below_drewN | apply below_drew1) | exact HB.out)) hb); clear HB; have HB := NB; clear NB hb; have b0 : w3.cell? ⟨g1, 0, none⟩ = some (.bool true) := (blk_cell B1.out 0).trans rfl; have b1 : w3.cell? ⟨g1, 1, none⟩ = some (.slice A1 keys.length c1) := (blk_cell B1.out 1).trans rfl; have b2 : w3.cell? ⟨g1, 2, none⟩ = some (.slice A2 vals.length c2) := (blk_cell B1.out 2).trans rfl; have b3 : w3.cell? ⟨g1, 3, none⟩ = some (.slice A3 kids.length c3) := (blk_cell B1.out 3).trans rfl))
    have B4 := Aside0.mk (blk_new w3 (.cells #[.string t] 9 (0, 0)))
    have X1 := Aside0.mk (blk_alloc B1.out (.cells #[.string t] 9 (0, 0)))
    have X2 := Aside0.mk (show Below w.heap.size w (w3.alloc (.cells #[.string t] 9 (0, 0))) from below_alloc HB.out _)
    have N14 := Aside0.mk (show g1 ≠ w3.heap.size from Nat.ne_of_lt (blk_lt B1.out))
    have G4 := Aside0.mk (show w.heap.size ≤ w3.heap.size from below_size HB.out)
    clear B1 HB b0 b1 b2 b3
    have B1 := X1
    have HB := X2
    clear X1 X2
    generalize w3.alloc (.cells #[.string t] 9 (0, 0)) = w4 at *
    generalize w3.heap.size = g4 at *
    have b0 : w4.cell? ⟨g1, 0, none⟩ = some (.bool true) := (blk_cell B1.out 0).trans rfl; have b1 : w4.cell? ⟨g1, 1, none⟩ = some (.slice A1 keys.length c1) := (blk_cell B1.out 1).trans rfl; have b2 : w4.cell? ⟨g1, 2, none⟩ = some (.slice A2 vals.length c2) := (blk_cell B1.out 2).trans rfl; have b3 : w4.cell? ⟨g1, 3, none⟩ = some (.slice A3 kids.length c3) := (blk_cell B1.out 3).trans rfl
    have hm : keys.length ≤ 100000 := by
      have := HO.out
      by_cases hc : keys.length ≤ 100000
      · exact hc
      · simp [hc] at this
    have HO' := Aside0.mk (show putLeaf k keys vals t = some o by simpa [hm] using HO.out)
    have HM := Aside0.mk hm
    clear hm
    clear HO
    have HO := HO'
    clear HO'
    go_wp2
    clear b0 b1 b2 b3
    go_loopw [29] (fun i wr => ∃ (q : Nat) (ob : ByteArray), i = .int .i64 q ∧ q ≤ keys.length ∧ Aside0 (putLeaf k (keys.drop q) (vals.drop q) ob = some o) ∧ Aside0 (wr.heap[g1]? = some (.cells #[.bool true, .slice A1 keys.length c1, .slice A2 vals.length c2, .slice A3 kids.length c3] 25 (0, 0))) ∧ Aside0 (wr.heap[g4]? = some (.cells #[.string ob] 9 (0, 0))) ∧ Aside0 (Below w.heap.size w wr)) (fun i _ => keys.length - (intOf i).toNat)
    case atStart => exact ⟨0, t, rfl, Nat.zero_le _, HO, B1, B4, HB⟩
    case round =>
      clear B1 B4 HB HO
      obtain ⟨q, ob, rfl, hq, HS, B1, B4, HB⟩ := hrel
      by_cases hlt : q < keys.length
      · obtain ⟨x, v, o1, o2, hx, hv, h1, h2, hs⟩ := putLeaf_step HS.out hlt
        obtain ⟨ad, rfl, hcx⟩ := str_at (Kd.C_below HR1.out HB.out) q x hx
        obtain ⟨av, rfl, hcv⟩ := str_at (Kd.C_below HR2.out HB.out) q v hv
        clear hcv
        have hql : q < vals.length := (List.getElem?_eq_some_iff.1 hv).1
        have T1 := Aside0.mk h1
        have T2 := Aside0.mk h2
        have HS' := Aside0.mk hs
        have HV := Aside0.mk hv
        clear h1 h2 hs hx hv HS
        have EW : wrap64 ((q : Int) + 1) = ((q + 1 : Nat) : Int) := by have := HM.out; unfold wrap64; omega
        have b1 : wr.cell? ⟨g1, 1, none⟩ = some (.slice (some ad) keys.length c1) := (blk_cell B1.out 1).trans rfl
        go_upto_region 10 with (go_at_call 29; refine (text_calls k g4 ob x o1 T1.out _ (by (with_reducible repeat (first | refine blk_drewN ?_ _ | refine blk_drew ?_ | refine blk_alloc ?_ _)); exact B4.out) w (by repeat (first | (with_reducible first | exact HB.out | apply below_alloc | apply pw_below_drewN | apply below_drew1) | exact HB.out)) G4.out).mono ?_; rintro e w5 ⟨rfl, hb4, hk, hb⟩; have X4 := Aside0.mk hb4; have X1 := Aside0.mk (KeepBut.blk (o := .cells #[.bool true, .slice (some ad) keys.length c1, .slice (some av) vals.length c2, .slice A3 kids.length c3] 25 (0, 0)) hk (by (with_reducible repeat (first | refine blk_drewN ?_ _ | refine blk_drew ?_ | refine blk_alloc ?_ _)); exact B1.out) N14.out (by simp)); have XB := Aside0.mk hb; clear B1 B4 HB; have B1 := X1; have B4 := X4; have HB := XB; clear X1 X4 XB hb4 hk hb; have b2 : w5.cell? ⟨g1, 2, none⟩ = some (.slice (some av) vals.length c2) := (blk_cell B1.out 2).trans rfl; obtain ⟨av', hav, hcv⟩ := str_at (Kd.C_below HR2.out HB.out) q v HV.out; (have hav' := Option.some.inj hav); subst hav'; clear hav)
        go_upto_region 11 with (go_at_call 29; refine (text_calls k g4 o1 v o2 T2.out _ (by (with_reducible repeat (first | refine blk_drewN ?_ _ | refine blk_drew ?_ | refine blk_alloc ?_ _)); exact B4.out) w (by repeat (first | (with_reducible first | exact HB.out | apply below_alloc | apply pw_below_drewN | apply below_drew1) | exact HB.out)) G4.out).mono ?_; rintro e w6 ⟨rfl, hb4, hk, hb⟩; have X4 := Aside0.mk hb4; have X1 := Aside0.mk (KeepBut.blk (o := .cells #[.bool true, .slice (some ad) keys.length c1, .slice (some av) vals.length c2, .slice A3 kids.length c3] 25 (0, 0)) hk (by (with_reducible repeat (first | refine blk_drewN ?_ _ | refine blk_drew ?_ | refine blk_alloc ?_ _)); exact B1.out) N14.out (by simp)); have XB := Aside0.mk hb; clear B1 B4 HB; have B1 := X1; have B4 := X4; have HB := XB; clear X1 X4 XB hb4 hk hb)
        go_wp2
        go_roundw
        case rel => exact ⟨q + 1, o2, by rw [EW], by omega, HS', B1, B4, HB⟩
        case measure => have := HM.out; rw [EW]; simp only [intOf]; omega
      · obtain rfl : q = keys.length := by omega
        have e1 : keys.drop keys.length = [] := List.drop_eq_nil_of_le (Nat.le_refl _)
        have hs := HS.out
        rw [e1, putLeaf] at hs
        obtain rfl := Option.some.inj hs
        clear hs e1 HS
        have b4 : wr.cell? ⟨g4, 0, none⟩ = some (.string ob) := (blk_cell B4.out 0).trans rfl
        go_wp2
        go_ret2
        exact ⟨rfl, HB.out⟩
end Go.Proofs.Ytmnkabdaapiikaa
