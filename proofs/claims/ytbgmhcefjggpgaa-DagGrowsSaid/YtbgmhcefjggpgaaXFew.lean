/- A graph of few tasks and needs (the law's few): what the machine's call comes to, as a plain function. -/
import Derived.Test.YtbgmhcefjggpgaaXx0
import Derived.LoopTactic
import Derived.Outline
import Derived.BigRegion
namespace Go.Proofs.Ytbgmhcefjggpgaa
open Go.RowKit Go.Proofs.YtbgmhcefjggpgaaW.PrintWords Go.Proofs.YtbgmhcefjggpgaaW.PrintLast Go.Proofs.YtbgmhcefjggpgaaW.PrintMore
open X (S39 k39 rd_T39 at_T39 z39 k39_open k39_mk)
theorem min2_mn (k k' : IntKind) (x y : Int) : Builtin.min2 (.int k x) (.int k' y) = pure (.int k (mn x y)) := by simp only [Builtin.min2, mn]
attribute [local go_sem] min2_mn min_two
set_option linter.unusedVariables false

def cutT (t : S39) : S39 := ⟨t.f0.take 20, t.f1, t.f2, t.f3⟩
def few20 (q : Nat) (l : List S39) : List S39 := (l.take q).map cutT ++ l.drop q
def penelopelaw16_few.f (k : Nat) (nm : ByteArray) (l0 : List S39) : Option (ByteArray × List S39) := some (nm, (l0.take 20).map cutT)
theorem penelopelaw16_few.mono : ∀ nm l0 k, LeO (penelopelaw16_few.f k nm l0) (penelopelaw16_few.f (k + 1) nm l0) := fun _ _ _ => LeO.refl _
theorem few20_zero (l : List S39) : few20 0 l = l := by simp [few20]
theorem few20_all (l : List S39) : few20 l.length l = l.map cutT := by simp [few20]
theorem few20_len (q : Nat) (l : List S39) (h : q ≤ l.length) : (few20 q l).length = l.length := by simp [few20]; omega
theorem few20_at (q : Nat) (l : List S39) (h : q < l.length) : (few20 q l).getD q z39 = l[q] := by
  unfold few20
  rw [List.getD_eq_getElem?_getD, List.getElem?_append_right (by simp; omega)]
  simp
  rw [Nat.min_eq_left (by omega), Nat.sub_self, Nat.add_zero, List.getElem?_eq_getElem h]
  rfl
theorem few20_set (q : Nat) (l : List S39) (h : q < l.length) : (few20 q l).set q (cutT l[q]) = few20 (q + 1) l := by
  unfold few20
  rw [List.set_append_right _ _ (by simp; omega), List.length_map, List.length_take, Nat.min_eq_left (by omega), Nat.sub_self, List.drop_eq_getElem_cons h, List.set_cons_zero, List.take_succ_eq_append_getElem h, List.map_append, List.append_assoc]
  rfl
theorem heap39 : Kd.Heap k39 := Kd.heap_iso _ (Kd.heap_pair (Kd.heap_slice 3 (Kd.heap_int .i64)) (Kd.heap_pair (Kd.heap_int _) (Kd.heap_pair (Kd.heap_int _) (Kd.heap_int _))))
theorem info39 : (Try.prog.info? 39).map (fun i => (i.zero, i.size, i.bytes)) = some (some (.agg #[.slice none 0 0, .int .i64 0, .int .i64 0, .int .i64 0]), 4, 48) := by kernel_rfl
set_option maxHeartbeats 4000000 in
set_option maxRecDepth 100000 in
theorem penelopelaw16_few.calls (k : Nat) (nm : ByteArray) (A0 : Option Addr) (c0 : Nat) (l0 : List S39) (r1 : ByteArray) (r2 : List S39) (gq : Nat) (w0 w : World) (hr0 : Kd.C k39 w0 A0 l0.length l0) (hw : Below w0.heap.size w0 w) (hq1 : w0.heap.size ≤ gq) (hq2 : gq < w.heap.size) (hc0 : l0.length ≤ c0) (h : penelopelaw16_few.f k nm l0 = some (r1, r2)) :
    Calls Try.prog 8 #[.agg #[.string nm, .slice A0 l0.length c0]] w fun e w' => ∃ v1_ : Value, e = .returned (.agg #[.string r1, v1_]) ∧ Kd.N k39 39 w' w.heap.size (fun k_ => k_ ≠ gq) v1_ r2 ∧ Below w.heap.size w w' := by
  have hu24 := Try.underlying24
  have hu39 := Try.underlying39
  unfold penelopelaw16_few.f at h
  simp only [Option.some.injEq, Prod.mk.injEq] at h
  obtain ⟨rfl, hr2⟩ := h
  have HR2 := Aside0.mk hr2
  clear hr2
  have HF := Aside0.mk (Kd.F_mono (ok' := fun k => k < w0.heap.size) (Kd.F_old (Kd.C_F heap39 hr0) hw) (fun _ h => h.2))
  have HW := Aside0.mk (below_size hw)
  have HQ1 := Aside0.mk (And.intro hq1 hq2)
  clear hq1 hq2
  have HC := Aside0.mk hc0
  have HB := Aside0.mk (Below.refl w.heap.size w)
  clear hr0 hw hc0
  go_enter Try.func8, Try.ntmps8
  go_upto_region 1 with (first | ((with_reducible refine gate_dst (N := 1) rfl ?_); refine box_event ?hg (N := 1) ?hd (cs := #[.string nm, .slice A0 l0.length c0]) (t := 24) ?hr ?_; (case hd => rfl); (case hg => rfl); (case hr => first | (go_simp; done) | (go_simp; rfl)); intro g1 hg w1 hbox hb; have G1 := Aside0.mk (show w.heap.size ≤ g1 by rw [hg]; exact below_size (by repeat (first | (with_reducible first | exact HB.out | apply below_alloc | apply pw_below_drewN | apply below_drew1) | exact HB.out))); have NB := Aside0.mk (below_step (by repeat (first | (with_reducible first | exact HB.out | apply below_alloc | apply pw_below_drewN | apply below_drew1) | exact HB.out)) hb); clear HB; have HB := NB; have B1 := Aside0.mk hbox; clear NB hb hbox hg) | ((with_reducible refine gate_dst (N := 2) rfl ?_); refine box_event ?hg (N := 2) ?hd (cs := #[.string (⟨#[]⟩ : ByteArray), .slice none 0 0]) (t := 24) ?hr ?_; (case hd => rfl); (case hg => rfl); (case hr => first | (go_simp; done) | (go_simp; rfl)); intro g2 hg w2 hbox hb; have G2 := Aside0.mk (show w.heap.size ≤ g2 by rw [hg]; exact below_size (by repeat (first | (with_reducible first | exact HB.out | apply below_alloc | apply pw_below_drewN | apply below_drew1) | exact HB.out))); have X1 := Aside0.mk (blk_below (o := .cells #[.string nm, .slice A0 l0.length c0] 24 (0, 0)) (by (with_reducible repeat (first | refine blk_drewN ?_ _ | refine blk_drew ?_ | refine blk_alloc ?_ _)); exact B1.out) hb); have N12 := Aside0.mk (show g1 ≠ g2 by rw [hg]; exact Nat.ne_of_lt (blk_lt (o := .cells #[.string nm, .slice A0 l0.length c0] 24 (0, 0)) (by (with_reducible repeat (first | refine blk_drewN ?_ _ | refine blk_drew ?_ | refine blk_alloc ?_ _)); exact B1.out))); have NB := Aside0.mk (below_step (by repeat (first | (with_reducible first | exact HB.out | apply below_alloc | apply pw_below_drewN | apply below_drew1) | exact HB.out)) hb); clear HB B1; have HB := NB; have B1 := X1; have B2 := Aside0.mk hbox; clear NB X1 hb hbox hg; have GL1 := Aside0.mk (blk_lt B1.out); have GL2 := Aside0.mk (blk_lt B2.out); have b11 : w2.cell? ⟨g1, 1, none⟩ = some (.slice A0 l0.length c0) := (blk_cell B1.out 1).trans rfl))
  have p1 : (0 : Int) ≤ mn (l0.length : Int) 20 := by unfold mn; split <;> omega
  have p2 : mn (l0.length : Int) 20 ≤ (c0 : Int) := by have := HC.out; unfold mn; split <;> omega
  have HM : Aside0 ((mn (l0.length : Int) 20).toNat ≤ 20 ∧ (mn (l0.length : Int) 20).toNat ≤ l0.length ∧ (mn (l0.length : Int) 20).toNat = min l0.length 20) := ⟨by unfold mn; split <;> omega⟩
  have HLM : Aside0 ((l0.take (mn (l0.length : Int) 20).toNat).length = (mn (l0.length : Int) 20).toNat) := ⟨by rw [List.length_take]; have := HM.out; omega⟩
  go_upto_region 2 with (first | ((with_reducible refine gate_dst (N := 5) rfl ?_); refine Kd.N_lit k39 (w0 := w) w.heap.size 39 ?hg (N' := 5) ?hd (xs := ([] : List S39)) (inner := []) (ok := (fun k_ => k_ < w0.heap.size ∨ w2.heap.size ≤ k_)) (okp := fun _ => False) ?hr ?hp (fun _ hk => hk.elim) (Or.inr (Nat.le_refl _)) (by repeat (first | (with_reducible first | exact HB.out | apply below_alloc | apply pw_below_drewN | apply below_drew1) | exact HB.out)) (below_size (by repeat (first | (with_reducible first | exact HB.out | apply below_alloc | apply pw_below_drewN | apply below_drew1) | exact HB.out))) (by simp) ?_; (case hd => rfl); (case hg => rfl); (case hr => first | (go_simp; done) | (go_simp; rfl)); (case hp => exact (Reps.none _ _)); intro v5 w3 ho hb hg hat; have hg0_ := hg.size; obtain ⟨A5, cc5, e5⟩ : ∃ A c, v5 = .slice A 0 c := Kd.N_slice ho; subst e5; have X1 := Aside0.mk (blk_grown (o := .cells #[.string nm, .slice A0 l0.length c0] 24 (0, 0)) (by (with_reducible repeat (first | refine blk_drewN ?_ _ | refine blk_drew ?_ | refine blk_alloc ?_ _)); exact B1.out) hg (by simp)); have X2 := Aside0.mk (blk_grown (o := .cells #[.string (⟨#[]⟩ : ByteArray), .slice none 0 0] 24 (0, 0)) (by (with_reducible repeat (first | refine blk_drewN ?_ _ | refine blk_drew ?_ | refine blk_alloc ?_ _)); exact B2.out) hg (by simp)); have X5 := Aside0.mk ho; clear B1 B2 HB; have B1 := X1; have B2 := X2; have H5 := X5; have HB := Aside0.mk hb; have HG := Aside0.mk hg0_; clear X1 X2 X5 ho hb hg hat hg0_; have b11 : w3.cell? ⟨g1, 1, none⟩ = some (.slice A0 l0.length c0) := (blk_cell B1.out 1).trans rfl) | ((with_reducible refine gate_builtin (b := .append) (xs := #[.tmp 5, .tmp 12]) rfl ?_); at_builtin; refine Kd.N_append_rows k39 (w0 := w) w.heap.size rfl (.tmp 5) (.tmp 12) 22 39 (.agg #[.slice none 0 0, .int .i64 0, .int .i64 0, .int .i64 0]) 48 rfl Try.underlying22 info39 rfl (by decide) (by omega) (.slice A5 0 cc5) [] (l0.take (mn (l0.length : Int) 20).toNat) A0 (mn (l0.length : Int) 20).toNat c0 (fun k_ => k_ < w0.heap.size ∨ w2.heap.size ≤ k_) (fun k => k < w0.heap.size) rfl rfl ?aO ?aR ?aK ?aF ?aB ?aS ?aL ?_; (case aO => exact (by (with_reducible repeat (first | apply Kd.N_alloc | apply Kd.N_drewN | apply Kd.N_drew)); exact H5.out)); (case aR => have hf_ := Kd.F_take HF.out (m := (mn (l0.length : Int) 20).toNat) (by have := HM.out; omega); rw [HLM.out] at hf_; exact Kd.F_below hf_ HB.out); (case aK => intro k_ hk_; refine ⟨Or.inl hk_, fun he => ?_⟩; have h1_ := Kd.N_base H5.out k_ he.symm; have h2_ := HW.out; omega); (case aF => intro k_ hk_; exact Or.inr (Nat.le_trans HG.out hk_)); (case aB => exact (by repeat (first | (with_reducible first | exact HB.out | apply below_alloc | apply pw_below_drewN | apply below_drew1) | exact HB.out))); (case aS => exact (below_size (by repeat (first | (with_reducible first | exact HB.out | apply below_alloc | apply pw_below_drewN | apply below_drew1) | exact HB.out)))); (case aL => have := HM.out; simp; omega); intro v6 w6 ho hb hg hat; rw [List.nil_append] at ho; obtain ⟨A6, n6, cc6, e6⟩ : ∃ A n c, v6 = .slice A n c := (Kd.N_slice ho).elim fun A h => h.elim fun c h => ⟨A, _, c, h⟩; subst e6; have X1 := Aside0.mk (blk_grown (g := g1) (o := .cells #[.string nm, .slice A0 l0.length c0] 24 (0, 0)) (by (with_reducible repeat (first | refine blk_drewN ?_ _ | refine blk_drew ?_ | refine blk_alloc ?_ _)); exact B1.out) hg (Kd.N_ne H5.out B1.out (by decide))); have X2 := Aside0.mk (blk_grown (g := g2) (o := .cells #[.string (⟨#[]⟩ : ByteArray), .slice none 0 0] 24 (0, 0)) (by (with_reducible repeat (first | refine blk_drewN ?_ _ | refine blk_drew ?_ | refine blk_alloc ?_ _)); exact B2.out) hg (Kd.N_ne H5.out B2.out (by decide))); have XO := Aside0.mk ho; have XB := Aside0.mk hb; clear ho hb hg hat B1 B2 H5 HB; have B1 := X1; have B2 := X2; have H6 := XO; have HB := XB; clear X1 X2 XO XB; have b11 : w6.cell? ⟨g1, 1, none⟩ = some (.slice A0 l0.length c0) := (blk_cell B1.out 1).trans rfl; have f11 := blk_frozen B1.out 1))
  have L12 := Aside0.mk (show g1 < w2.heap.size ∧ g2 < w2.heap.size from ⟨GL1.out, GL2.out⟩)
  have X1 := Aside0.mk (show (w6.setCell ⟨g1, 1, none⟩ (.slice A6 n6 cc6)).heap[g1]? = some (.cells #[.string nm, .slice A6 n6 cc6] 24 (0, 0)) from blk_put (cs := #[.string nm, .slice A0 l0.length c0]) B1.out 1 _ rfl)
  have X2 := Aside0.mk (show (w6.setCell ⟨g1, 1, none⟩ (.slice A6 n6 cc6)).heap[g2]? = some (.cells #[.string (⟨#[]⟩ : ByteArray), .slice none 0 0] 24 (0, 0)) from blk_far B2.out N12.out.symm _)
  have XO := Aside0.mk (show Kd.N k39 39 (w6.setCell ⟨g1, 1, none⟩ (.slice A6 n6 cc6)) w.heap.size (fun k_ => k_ < w0.heap.size ∨ w2.heap.size ≤ k_) (.slice A6 n6 cc6) (l0.take (mn (l0.length : Int) 20).toNat) from Kd.N_far H6.out (fun k_ hk_ => by have h1_ := HW.out; have h2_ := G1.out; have h3_ := L12.out.1; rintro rfl; rcases hk_ with hk_ | hk_ <;> omega) _)
  have XB := Aside0.mk (show Below w.heap.size w (w6.setCell ⟨g1, 1, none⟩ (.slice A6 n6 cc6)) from below_set HB.out G1.out)
  clear B1 B2 H6 HB b11 f11
  have B1 := X1
  have B2 := X2
  have H6 := XO
  have HB := XB
  clear X1 X2 XO XB
  generalize w6.setCell ⟨g1, 1, none⟩ (.slice A6 n6 cc6) = w7 at *
  have hL : Aside0 ((l0.take (mn (l0.length : Int) 20).toNat).map cutT = r2) := ⟨by
    have h1_ : l0.take 20 = l0.take (mn (l0.length : Int) 20).toNat := by rw [List.take_eq_take_iff]; have := HM.out; omega
    rw [← h1_]; exact HR2.out⟩
  clear HR2
  clear HLM HM p1 p2 HF
  generalize l0.take (mn (l0.length : Int) 20).toNat = L at *
  have hn6 := (Kd.N_reads' H6.out).1
  subst hn6
  have b11 : w7.cell? ⟨g1, 1, none⟩ = some (.slice A6 L.length cc6) := (blk_cell B1.out 1).trans rfl
  go_wp2
  clear b11
  go_loopw [18] (fun v18 wr => ∃ q : Nat, v18 = .int .i64 q ∧ Aside0 (q ≤ L.length) ∧ Aside0 (Kd.N k39 39 wr w.heap.size (fun k_ => k_ < w0.heap.size ∨ w2.heap.size ≤ k_) (.slice A6 L.length cc6) (few20 q L)) ∧ Aside0 (wr.heap[g1]? = some (.cells #[.string nm, .slice A6 L.length cc6] 24 (0, 0))) ∧ Aside0 (wr.heap[g2]? = some (.cells #[.string (⟨#[]⟩ : ByteArray), .slice none 0 0] 24 (0, 0))) ∧ Aside0 (Below w.heap.size w wr)) (fun i _ => L.length - (intOf i).toNat)
  case atStart => exact ⟨0, rfl, ⟨Nat.zero_le _⟩, by rw [few20_zero]; exact H6, B1, B2, HB⟩
  case round =>
    clear H6 B1 B2 HB
    obtain ⟨q, rfl, HQ, H6, B1, B2, HB⟩ := hrel
    by_cases hlt : q < L.length
    · have hbig : L.length ≤ 9223372036854775807 := by have h1_ := (Kd.N_reads' H6.out).2.2.2.1; rw [few20_len _ _ (by omega)] at h1_; exact h1_
      have EW : wrap64 ((q : Int) + 1) = ((q + 1 : Nat) : Int) := by unfold wrap64; omega
      obtain ⟨g, cap, e6, hgb, hgl, cells6, hc6⟩ := Kd.N_form H6.out (by rw [few20_len _ _ (by omega)]; omega)
      injection e6 with e6 e7 e8
      subst e6
      subst e8
      clear e7
      obtain ⟨c, hcl, hFK, hcc, hfr⟩ := Kd.N_elem H6.out z39 (q : Int) (by omega) (by omega)
      rw [Int.toNat_natCast, few20_at q L hlt] at hFK
      rw [Int.toNat_natCast] at hcc hfr
      have hset := few20_set q L hlt
      have hat := few20_at q L hlt
      generalize L[q] = t at *
      obtain ⟨A8, c8, hc8, l8, g8r⟩ := k39_open (Kd.FK_now hFK)
      subst hc8
      have t0 : wr.cell? ⟨g, q * 4, none⟩ = some (.slice A8 t.f0.length c8) := hcc 0 _ rfl
      have t1 : wr.cell? ⟨g, q * 4 + 1, none⟩ = some (.int .i64 t.f1) := hcc 1 _ rfl
      have t2 : wr.cell? ⟨g, q * 4 + 2, none⟩ = some (.int .i64 t.f2) := hcc 2 _ rfl
      have t3 : wr.cell? ⟨g, q * 4 + 3, none⟩ = some (.int .i64 t.f3) := hcc 3 _ rfl
      go_upto_region 5 with ((with_reducible refine gate_dst (N := 4) rfl ?_); refine box_event ?hg (N := 4) ?hd (cs := #[.slice none 0 0, .int .i64 0, .int .i64 0, .int .i64 0]) (t := 39) ?hr ?_; (case hd => rfl); (case hg => rfl); (case hr => first | (go_simp; done) | (go_simp; rfl)); intro g4 hg w8 hbox hb; fail)
      have g8l := blk_lt (o := .cells #[.string nm, .slice (some ⟨g, 0, none⟩) L.length cc6] 24 (0, 0)) B1.out
      have X4 := Aside0.mk (blk_new wr (.cells #[.slice A8 t.f0.length c8, .int .i64 t.f1, .int .i64 t.f2, .int .i64 t.f3] 39 (0, 0)))
      have X1 := Aside0.mk (blk_alloc B1.out (.cells #[.slice A8 t.f0.length c8, .int .i64 t.f1, .int .i64 t.f2, .int .i64 t.f3] 39 (0, 0)))
      have X2 := Aside0.mk (blk_alloc B2.out (.cells #[.slice A8 t.f0.length c8, .int .i64 t.f1, .int .i64 t.f2, .int .i64 t.f3] 39 (0, 0)))
      have XB := Aside0.mk (below_alloc HB.out (.cells #[.slice A8 t.f0.length c8, .int .i64 t.f1, .int .i64 t.f2, .int .i64 t.f3] 39 (0, 0)))
      have XN := Aside0.mk (Kd.N_alloc (Kd.N_bound H6.out) (.cells #[.slice A8 t.f0.length c8, .int .i64 t.f1, .int .i64 t.f2, .int .i64 t.f3] 39 (0, 0)))
      have N1g := Aside0.mk (show g1 ≠ g from fun he => by have h1_ := B1.out; rw [he, hc6] at h1_; simp at h1_)
      have N2g := Aside0.mk (show g2 ≠ g from fun he => by have h1_ := B2.out; rw [he, hc6] at h1_; simp at h1_)
      have N14 := Aside0.mk (show g1 ≠ wr.heap.size from Nat.ne_of_lt (blk_lt B1.out))
      have G4 := Aside0.mk (show w.heap.size ≤ wr.heap.size from below_size HB.out)
      have NG4 : g ≠ wr.heap.size := Nat.ne_of_lt hgl
      have NG4' := NG4.symm
      have N14a := N14.out
      have N14b := N14.out.symm
      have bA : Below wr.heap.size wr (wr.alloc (.cells #[.slice A8 t.f0.length c8, .int .i64 t.f1, .int .i64 t.f2, .int .i64 t.f3] 39 (0, 0))) := below_alloc (Below.refl _ _) _
      have s0 := (bA.cell (World.block_lt_of_cell? wr _ t0)).trans t0
      have s1 := (bA.cell (World.block_lt_of_cell? wr _ t1)).trans t1
      have s2 := (bA.cell (World.block_lt_of_cell? wr _ t2)).trans t2
      have s3 := (bA.cell (World.block_lt_of_cell? wr _ t3)).trans t3
      have XK := Aside0.mk (Kd.FK_below (Kd.FK_bound hFK) bA)
      have fs0 : (wr.alloc (.cells #[.slice A8 t.f0.length c8, .int .i64 t.f1, .int .i64 t.f2, .int .i64 t.f3] 39 (0, 0))).frozen? ⟨g, q * 4, none⟩ = false := by
        have h1_ := hfr 0
        unfold World.frozen? at h1_ ⊢
        rw [bA.block g hgl]
        exact h1_
      clear B1 B2 HB H6 t0 t1 t2 t3 hcc hfr hFK g8l hc6 bA
      have B1 := X1
      have B2 := X2
      have B4 := X4
      have HB := XB
      have H6 := XN
      clear X1 X2 X4 XB XN
      have c40 : (wr.alloc (.cells #[.slice A8 t.f0.length c8, .int .i64 t.f1, .int .i64 t.f2, .int .i64 t.f3] 39 (0, 0))).cell? ⟨wr.heap.size, 0, none⟩ = some (.slice A8 t.f0.length c8) := (blk_cell B4.out 0).trans rfl
      have b11 : (wr.alloc (.cells #[.slice A8 t.f0.length c8, .int .i64 t.f1, .int .i64 t.f2, .int .i64 t.f3] 39 (0, 0))).cell? ⟨g1, 1, none⟩ = some (.slice (some ⟨g, 0, none⟩) L.length cc6) := (blk_cell B1.out 1).trans rfl
      generalize wr.alloc (.cells #[.slice A8 t.f0.length c8, .int .i64 t.f1, .int .i64 t.f2, .int .i64 t.f3] 39 (0, 0)) = w8 at *
      generalize wr.heap.size = g4 at *
      have p1 : (0 : Int) ≤ mn (t.f0.length : Int) 20 := by unfold mn; split <;> omega
      have p2 : mn (t.f0.length : Int) 20 ≤ (c8 : Int) := by unfold mn; split <;> omega
      have p3 : (q : Int) < (L.length : Int) := by omega
      have hmt : (mn (t.f0.length : Int) 20).toNat ≤ t.f0.length := by unfold mn; split <;> omega
      have hm20 : (t.f0.take (mn (t.f0.length : Int) 20).toNat).length = (mn (t.f0.length : Int) 20).toNat := by rw [List.length_take]; omega
      have hcut : cutT t = ⟨t.f0.take (mn (t.f0.length : Int) 20).toNat, t.f1, t.f2, t.f3⟩ := by
        unfold cutT
        congr 1
        rw [List.take_eq_take_iff]
        unfold mn
        split <;> omega
      have FKn : Kd.FK k39 w8 (fun k => ((fun k_ => k_ < w0.heap.size ∨ w2.heap.size ≤ k_) k ∧ k ≠ g)) (cutT t) ([(.slice A8 (mn (t.f0.length : Int) 20).toNat c8), .int .i64 t.f1, .int .i64 t.f2, .int .i64 t.f3] : List Value) := by
        intro W' hW
        have h1_ := XK.out W' (fun k hk hlt => hW k hk.1 hlt)
        obtain ⟨A', c', he_, l', g'⟩ := k39_open h1_
        simp only [List.cons.injEq, Value.slice.injEq] at he_
        obtain ⟨⟨rfl, _, rfl⟩, _⟩ := he_
        rw [hcut]
        have h2_ := Kd.C_take g' (m := (mn (t.f0.length : Int) 20).toNat) hmt
        have h3_ := k39_mk W' ⟨t.f0.take (mn (t.f0.length : Int) 20).toNat, t.f1, t.f2, t.f3⟩ (A0 := A8) (c0 := c8) (by simp only; rw [hm20]; omega) h2_
        simp only at h3_
        rw [hm20] at h3_
        exact h3_
      obtain ⟨NN, NG⟩ := Kd.N_seg (Kd.N_mono H6.out (ok' := (fun k_ => k_ < w0.heap.size ∨ w2.heap.size ≤ k_)) (fun _ h => h.1)) (q : Int) (by omega) (by omega) (c := [.slice A8 t.f0.length c8, .int .i64 t.f1, .int .i64 t.f2, .int .i64 t.f3]) (seg := [(.slice A8 (mn (t.f0.length : Int) 20).toNat c8)]) (j := 0) rfl
        (fun j v hj => by
          rw [Int.toNat_natCast]
          rcases j with _ | _ | _ | _ | j
          · simp at hj; subst hj; exact s0
          · simp at hj; subst hj; exact s1
          · simp at hj; subst hj; exact s2
          · simp at hj; subst hj; exact s3
          · simp at hj) (by show 0 + 1 ≤ 4; decide) (x' := cutT t) FKn (fun _ h => h)
      have XN := Aside0.mk (show Kd.N k39 39 (w8.setCell ⟨g, q * 4, none⟩ (.slice A8 (mn (t.f0.length : Int) 20).toNat c8)) w.heap.size (fun k_ => k_ < w0.heap.size ∨ w2.heap.size ≤ k_) (.slice (some ⟨g, 0, none⟩) L.length cc6) (few20 (q + 1) L) from by
        have h1_ := NN
        rw [Int.toNat_natCast, hset] at h1_
        exact h1_)
      have X1 := Aside0.mk (show (w8.setCell ⟨g, q * 4, none⟩ (.slice A8 (mn (t.f0.length : Int) 20).toNat c8)).heap[g1]? = some (.cells #[.string nm, .slice (some ⟨g, 0, none⟩) L.length cc6] 24 (0, 0)) from blk_far B1.out N1g.out _)
      have X2 := Aside0.mk (show (w8.setCell ⟨g, q * 4, none⟩ (.slice A8 (mn (t.f0.length : Int) 20).toNat c8)).heap[g2]? = some (.cells #[.string (⟨#[]⟩ : ByteArray), .slice none 0 0] 24 (0, 0)) from blk_far B2.out N2g.out _)
      have XB := Aside0.mk (show Below w.heap.size w (w8.setCell ⟨g, q * 4, none⟩ (.slice A8 (mn (t.f0.length : Int) 20).toNat c8)) from below_set HB.out hgb)
      clear XK FKn NN NG B1 B2 B4 HB H6
      go_region
      go_wp2
      go_roundw
      case rel => exact ⟨q + 1, by go_num, ⟨by omega⟩, ⟨Kd.N_drew XN.out⟩, ⟨blk_drew X1.out⟩, ⟨blk_drew X2.out⟩, ⟨below_drew XB.out⟩⟩
      case measure => simp [intOf]; omega
    · obtain rfl : q = L.length := by have := HQ.out; omega
      rw [few20_all, hL.out] at H6
      have b10 : wr.cell? ⟨g1, 0, none⟩ = some (.string nm) := (blk_cell B1.out 0).trans rfl
      have b11 : wr.cell? ⟨g1, 1, none⟩ = some (.slice A6 L.length cc6) := (blk_cell B1.out 1).trans rfl
      have b20 : wr.cell? ⟨g2, 0, none⟩ = some (.string (⟨#[]⟩ : ByteArray)) := (blk_cell B2.out 0).trans rfl
      have b21 : wr.cell? ⟨g2, 1, none⟩ = some (.slice none 0 0) := (blk_cell B2.out 1).trans rfl
      have f20 := blk_frozen B2.out 0
      have f21 := blk_frozen B2.out 1
      have n12 := N12.out
      have n21 := N12.out.symm
      go_wp2
      refine bodyPost_ret (results_single rfl (.cell g2 24 #[.string nm, .slice A6 L.length cc6] (0, 0) _ rfl (by refine blk_put (cs := #[.string nm, .slice none 0 0]) ?_ 1 _ rfl; refine blk_put (cs := #[.string (⟨#[]⟩ : ByteArray), .slice none 0 0]) ?_ 0 _ rfl; exact B2.out) Try.underlying24 rfl (by kernel_rfl) .nil)) rfl ?_
      have hne : ∀ k_, (k_ < w0.heap.size ∨ w2.heap.size ≤ k_) → k_ ≠ g2 := by
        intro k_ hk_
        have h1_ := HW.out
        have h2_ := G2.out
        have h3_ := L12.out.2
        rintro rfl
        rcases hk_ with hk_ | hk_ <;> omega
      refine ⟨_, rfl, Kd.N_mono (Kd.N_far (Kd.N_far H6.out hne _) hne _) (fun k_ hk_ => ?_), below_set (below_set HB.out G2.out) G2.out⟩
      have h2_ := G2.out
      have h3_ := L12.out.2
      have h4_ := HQ1.out
      rcases hk_ with hk_ | hk_ <;> omega
end Go.Proofs.Ytbgmhcefjggpgaa
