/- Words and walks for the law RunLeases, joined and made small by a program of mine. -/
import Derived.Test.YtabmkighhmchmaaC4
import Derived.LoopTactic
import Derived.Outline
import Derived.BigRegion
import Derived.Test.YtabmkighhmchmaaC2
import Derived.Test.YtabmkighhmchmaaC5
import Derived.Test.YtabmkighhmchmaaC3
namespace Go.Proofs.Ytabmkighhmchmaa
open Go.RowKit Go.YW.PrintWords Go.YW.PrintLast Go.YW.PrintMore Go.YW.Sq
open X (S49 S51 k49 k51 q0d q1s z49 k49_open k49_mk)
theorem min2_mn (k k' : IntKind) (x y : Int) : Builtin.min2 (.int k x) (.int k' y) = pure (.int k (mn x y)) := by simp only [Builtin.min2, mn]
attribute [local go_sem] min2_mn q1d
set_option linter.unusedVariables false
def cutT (t : S49) : S49 := ⟨t.f0.take 20, t.f1, t.f2, t.f3⟩
def few20 (q : Nat) (l : List S49) : List S49 := (l.take q).map cutT ++ l.drop q
def X.Gl.f (k : Nat) (a0 a1 : ByteArray) (a3 : List S49) (a2 : Int) (a4 : List S51) : Option (ByteArray × ByteArray × List S49 × Int × List S51) := some (a0, a1, (a3.take 20).map cutT, a2, a4.take 20)
theorem few20_zero (l : List S49) : few20 0 l = l := by simp [few20]
theorem few20_all (l : List S49) : few20 l.length l = l.map cutT := by simp [few20]
theorem few20_len (q : Nat) (l : List S49) (h : q ≤ l.length) : (few20 q l).length = l.length := by simp [few20]; omega
theorem few20_at (q : Nat) (l : List S49) (h : q < l.length) : (few20 q l).getD q z49 = l[q] := by
 unfold few20
 rw [List.getD_eq_getElem?_getD, List.getElem?_append_right (by simp; omega)]
 simp
 rw [Nat.min_eq_left (by omega), Nat.sub_self, Nat.add_zero, List.getElem?_eq_getElem h]
 rfl
theorem few20_set (q : Nat) (l : List S49) (h : q < l.length) : (few20 q l).set q (cutT l[q]) = few20 (q + 1) l := by
 unfold few20
 rw [List.set_append_right _ _ (by simp; omega), List.length_map, List.length_take, Nat.min_eq_left (by omega), Nat.sub_self, List.drop_eq_getElem_cons h, List.set_cons_zero, List.take_succ_eq_append_getElem h, List.map_append, List.append_assoc]
 rfl
set_option maxHeartbeats 4000000 in
set_option maxRecDepth 100000 in
theorem few_calls (ky nm : ByteArray) (P2 : Nat → Prop) (A0 : Option Addr) (c0 : Nat) (l0 : List S49) (is : Int) (P4 : Nat → Prop) (A4 : Option Addr) (c4 : Nat) (l4 : List S51) (r2 : List S49) (w : World) (e2 : (l0.take 20).map cutT = r2) (e3 : Kd.V k49 49 w w.heap.size (fun k_ => P2 k_) (.slice A0 l0.length c0) l0) (e4 : Kd.V k51 51 w w.heap.size (fun k_ => P4 k_) (.slice A4 l4.length c4) l4) :
  Calls Try.prog 9 #[.agg #[.string ky, .string nm, .slice A0 l0.length c0, .int .i64 is, .slice A4 l4.length c4]] w fun e w' => ∃ e9 f4 : Value, e = .returned (.agg #[.string ky, .string nm, e9, .int .i64 is, f4]) ∧ Kd.V k49 49 w' w.heap.size (fun k_ => ((P2 k_ ∨ P4 k_) ∨ w.heap.size ≤ k_)) e9 r2 ∧ Kd.V k51 51 w' w.heap.size (fun k_ => ((P2 k_ ∨ P4 k_) ∨ w.heap.size ≤ k_)) f4 (l4.take 20) ∧ Below w.heap.size w w' := by
 have i6 := Try.underlying27
 have i4 := Try.underlying24
 have i5 := Try.underlying25
 have i3 := Try.underlying22
 have i8 := Try.underlying49
 have i7 := Try.underlying47
 have d1 := am e2
 obtain ⟨_, d4, d7⟩ := Kd.V_at e3
 obtain ⟨_, d5, d8⟩ := Kd.V_at e4
 have HF := am (Kd.F_bound d7)
 have f8 := am d8
 have HW := am (Nat.le_refl w.heap.size)
 have HC := am d4
 have f7 := am d5
 have HB := am (Below.refl w.heap.size w)
 clear e2 e3 e4 d4 d5 d7 d8
 go_enter Try.func9, Try.ntmps9
 go_upto_region 1 with (first | ((with_reducible refine q2x (N := 1) rfl ?_); refine q2s ?hg (N := 1) ?hd (cs := #[.string ky, .string nm, .slice A0 l0.length c0, .int .i64 is, .slice A4 l4.length c4]) (t := 27) ?hr ?_; (case hd => rfl); (case hg => rfl); (case hr => first | (go_simp; done) | (go_simp; rfl)); intro g1 hg w1 a2 hb; have G1 := am (show w.heap.size ≤ g1 by rw [hg]; exact q0m (by repeat (first | (with_reducible first | exact HB.out | apply q0f | apply q0l | apply q0b) | exact HB.out))); have NB := am (q0k (by repeat (first | (with_reducible first | exact HB.out | apply q0f | apply q0l | apply q0b) | exact HB.out)) hb); clear HB; have HB := NB; have B1 := am a2; clear NB hb a2 hg) | ((with_reducible refine q2x (N := 2) rfl ?_); refine q2s ?hg (N := 2) ?hd (cs := #[(.string (⟨#[]⟩ : ByteArray)), (.string (⟨#[]⟩ : ByteArray)), (.slice none 0 0), (.int .i64 0), (.slice none 0 0)]) (t := 27) ?hr ?_; (case hd => rfl); (case hg => rfl); (case hr => first | (go_simp; done) | (go_simp; rfl)); intro g2 hg w2 a2 hb; have G2 := am (show w.heap.size ≤ g2 by rw [hg]; exact q0m (by repeat (first | (with_reducible first | exact HB.out | apply q0f | apply q0l | apply q0b) | exact HB.out))); have X1 := am (q0c (o := .cells #[.string ky, .string nm, .slice A0 l0.length c0, .int .i64 is, .slice A4 l4.length c4] 27 (0, 0)) (by (with_reducible repeat (first | refine q0u ?_ _ | refine q0g ?_ | refine q0h ?_ _)); exact B1.out) hb); have b2 := am (show g1 ≠ g2 by rw [hg]; exact Nat.ne_of_lt (q2j (o := .cells #[.string ky, .string nm, .slice A0 l0.length c0, .int .i64 is, .slice A4 l4.length c4] 27 (0, 0)) (by (with_reducible repeat (first | refine q0u ?_ _ | refine q0g ?_ | refine q0h ?_ _)); exact B1.out))); have NB := am (q0k (by repeat (first | (with_reducible first | exact HB.out | apply q0f | apply q0l | apply q0b) | exact HB.out)) hb); clear HB B1; have HB := NB; have B1 := X1; have B2 := am a2; clear NB X1 hb a2 hg; have f5 := am (q2j B1.out); have f6 := am (q2j B2.out); have a3 : w2.cell? ⟨g1, 2, none⟩ = some (.slice A0 l0.length c0) := bc B1.out))
 have p1 : (0 : Int) ≤ mn (l0.length : Int) 20 := by unfold mn; split <;> omega
 have p2 : mn (l0.length : Int) 20 ≤ (c0 : Int) := by have := HC.out; unfold mn; split <;> omega
 have HM : q0e ((mn (l0.length : Int) 20).toNat ≤ 20 ∧ (mn (l0.length : Int) 20).toNat ≤ l0.length ∧ (mn (l0.length : Int) 20).toNat = min l0.length 20) := ⟨by unfold mn; split <;> omega⟩
 have d0 : q0e ((l0.take (mn (l0.length : Int) 20).toNat).length = (mn (l0.length : Int) 20).toNat) := ⟨by rw [List.length_take]; have := HM.out; omega⟩
 go_upto_region 2 with (first | ((with_reducible refine q2x (N := 5) rfl ?_); refine Kd.N_lit k49 (w0 := w) w.heap.size 49 ?hg (N' := 5) ?hd (xs := ([] : List S49)) (inner := []) (ok := (fun k_ => ((P2 k_ ∧ k_ < w.heap.size) ∨ w2.heap.size ≤ k_))) (okp := fun _ => False) ?hr ?hp (fun _ hk => hk.elim) (Or.inr (Nat.le_refl _)) (by repeat (first | (with_reducible first | exact HB.out | apply q0f | apply q0l | apply q0b) | exact HB.out)) (q0m (by repeat (first | (with_reducible first | exact HB.out | apply q0f | apply q0l | apply q0b) | exact HB.out))) (by simp) ?_; (case hd => rfl); (case hg => rfl); (case hr => first | (go_simp; done) | (go_simp; rfl)); (case hp => exact (Reps.none _ _)); intro v5 w3 ho hb hg b4; have a7 := hg.size; obtain ⟨A5, cc5, e5⟩ : ∃ A c, v5 = .slice A 0 c := Kd.N_slice ho; subst e5; have X1 := am (q1n (o := .cells #[.string ky, .string nm, .slice A0 l0.length c0, .int .i64 is, .slice A4 l4.length c4] 27 (0, 0)) (by (with_reducible repeat (first | refine q0u ?_ _ | refine q0g ?_ | refine q0h ?_ _)); exact B1.out) hg (by simp)); have X2 := am (q1n (o := .cells #[(.string (⟨#[]⟩ : ByteArray)), (.string (⟨#[]⟩ : ByteArray)), (.slice none 0 0), (.int .i64 0), (.slice none 0 0)] 27 (0, 0)) (by (with_reducible repeat (first | refine q0u ?_ _ | refine q0g ?_ | refine q0h ?_ _)); exact B2.out) hg (by simp)); have X5 := am ho; clear B1 B2 HB; have B1 := X1; have B2 := X2; have H5 := X5; have HB := am hb; have HG := am a7; clear X1 X2 X5 ho hb hg b4 a7; have a3 : w3.cell? ⟨g1, 2, none⟩ = some (.slice A0 l0.length c0) := bc B1.out) | ((with_reducible refine q2q (b := .append) (xs := #[.tmp 5, .tmp 14]) rfl ?_); at_builtin; refine Kd.N_append_rows k49 (w0 := w) w.heap.size rfl (.tmp 5) (.tmp 14) 22 49 (.agg #[.slice none 0 0, .int .i64 0, .int .i64 0, .int .i64 0]) 48 rfl Try.underlying22 X.info49 rfl (by decide) (by omega) (.slice A5 0 cc5) [] (l0.take (mn (l0.length : Int) 20).toNat) A0 (mn (l0.length : Int) 20).toNat c0 (fun k_ => ((P2 k_ ∧ k_ < w.heap.size) ∨ w2.heap.size ≤ k_)) (fun k => P2 k ∧ k < w.heap.size) rfl rfl ?aO ?aR ?aK ?aF ?aB ?aS ?aL ?_; (case aO => exact (by (with_reducible repeat (first | apply Kd.N_alloc | apply Kd.N_drewN | apply Kd.N_drew)); exact H5.out)); (case aR => have d9 := Kd.F_take HF.out (m := (mn (l0.length : Int) 20).toNat) (by have := HM.out; omega); rw [d0.out] at d9; exact Kd.F_below d9 HB.out); (case aK => intro k_ a0; refine ⟨Or.inl a0, fun he => ?_⟩; have a1 := Kd.N_base H5.out k_ he.symm; have a5 := HW.out; omega); (case aF => intro k_ a0; exact Or.inr (Nat.le_trans HG.out a0)); (case aB => exact (by repeat (first | (with_reducible first | exact HB.out | apply q0f | apply q0l | apply q0b) | exact HB.out))); (case aS => exact (q0m (by repeat (first | (with_reducible first | exact HB.out | apply q0f | apply q0l | apply q0b) | exact HB.out)))); (case aL => have := HM.out; simp; omega); intro v6 w6 ho hb hg b4; rw [List.nil_append] at ho; obtain ⟨A6, n6, cc6, e6⟩ : ∃ A n c, v6 = .slice A n c := (Kd.N_slice ho).elim fun A h => h.elim fun c h => ⟨A, _, c, h⟩; subst e6; have X1 := am (q1n (g := g1) (o := .cells #[.string ky, .string nm, .slice A0 l0.length c0, .int .i64 is, .slice A4 l4.length c4] 27 (0, 0)) (by (with_reducible repeat (first | refine q0u ?_ _ | refine q0g ?_ | refine q0h ?_ _)); exact B1.out) hg (Kd.N_ne H5.out B1.out (by decide))); have X2 := am (q1n (g := g2) (o := .cells #[(.string (⟨#[]⟩ : ByteArray)), (.string (⟨#[]⟩ : ByteArray)), (.slice none 0 0), (.int .i64 0), (.slice none 0 0)] 27 (0, 0)) (by (with_reducible repeat (first | refine q0u ?_ _ | refine q0g ?_ | refine q0h ?_ _)); exact B2.out) hg (Kd.N_ne H5.out B2.out (by decide))); have XO := am ho; have XB := am hb; clear ho hb hg b4 B1 B2 H5 HB; have B1 := X1; have B2 := X2; have H6 := XO; have HB := XB; clear X1 X2 XO XB; have a3 : w6.cell? ⟨g1, 2, none⟩ = some (.slice A0 l0.length c0) := bc B1.out; have h6 := q0j B1.out 2))
 have b1 := am (show g1 < w2.heap.size ∧ g2 < w2.heap.size from ⟨f5.out, f6.out⟩)
 have X1 := am (show (w6.setCell ⟨g1, 2, none⟩ (.slice A6 n6 cc6)).heap[g1]? = some (.cells #[.string ky, .string nm, .slice A6 n6 cc6, .int .i64 is, .slice A4 l4.length c4] 27 (0, 0)) from q0q (cs := #[.string ky, .string nm, .slice A0 l0.length c0, .int .i64 is, .slice A4 l4.length c4]) B1.out 2 _ rfl)
 have X2 := am (show (w6.setCell ⟨g1, 2, none⟩ (.slice A6 n6 cc6)).heap[g2]? = some (.cells #[(.string (⟨#[]⟩ : ByteArray)), (.string (⟨#[]⟩ : ByteArray)), (.slice none 0 0), (.int .i64 0), (.slice none 0 0)] 27 (0, 0)) from q0n B2.out b2.out.symm _)
 have XO := am (show Kd.N k49 49 (w6.setCell ⟨g1, 2, none⟩ (.slice A6 n6 cc6)) w.heap.size (fun k_ => ((P2 k_ ∧ k_ < w.heap.size) ∨ w2.heap.size ≤ k_)) (.slice A6 n6 cc6) (l0.take (mn (l0.length : Int) 20).toNat) from Kd.N_far H6.out (fun k_ a0 => by have a1 := HW.out; have a5 := G1.out; have a4 := b1.out.1; rintro rfl; rcases a0 with ⟨_, a0⟩ | a0 <;> omega) _)
 have XB := am (show Below w.heap.size w (w6.setCell ⟨g1, 2, none⟩ (.slice A6 n6 cc6)) from q0o HB.out G1.out)
 clear B1 B2 H6 HB a3 h6
 have B1 := X1
 have B2 := X2
 have H6 := XO
 have HB := XB
 clear X1 X2 XO XB
 generalize w6.setCell ⟨g1, 2, none⟩ (.slice A6 n6 cc6) = w7 at *
 have hL : q0e ((l0.take (mn (l0.length : Int) 20).toNat).map cutT = r2) := ⟨by
  have a1 : l0.take 20 = l0.take (mn (l0.length : Int) 20).toNat := by rw [List.take_eq_take_iff]; have := HM.out; omega
  rw [← a1]; exact d1.out⟩
 clear d1
 clear d0 HM p1 p2 HF
 generalize l0.take (mn (l0.length : Int) 20).toNat = L at *
 have i2 := (Kd.N_reads' H6.out).1
 subst i2
 have a3 : w7.cell? ⟨g1, 2, none⟩ = some (.slice A6 L.length cc6) := bc B1.out
 go_wp2
 clear a3
 go_loopw [22] (fun i9 wr => ∃ q : Nat, i9 = .int .i64 q ∧ q0e (q ≤ L.length) ∧ q0e (Kd.N k49 49 wr w.heap.size (fun k_ => ((P2 k_ ∧ k_ < w.heap.size) ∨ w2.heap.size ≤ k_)) (.slice A6 L.length cc6) (few20 q L)) ∧ q0e (wr.heap[g1]? = some (.cells #[.string ky, .string nm, .slice A6 L.length cc6, .int .i64 is, .slice A4 l4.length c4] 27 (0, 0))) ∧ q0e (wr.heap[g2]? = some (.cells #[(.string (⟨#[]⟩ : ByteArray)), (.string (⟨#[]⟩ : ByteArray)), (.slice none 0 0), (.int .i64 0), (.slice none 0 0)] 27 (0, 0))) ∧ q0e (Below w.heap.size w wr)) (fun i _ => L.length - (intOf i).toNat)
 case atStart => exact ⟨0, rfl, ⟨Nat.zero_le _⟩, by rw [few20_zero]; exact H6, B1, B2, HB⟩
 case round =>
  clear H6 B1 B2 HB
  obtain ⟨q, rfl, HQ, H6, B1, B2, HB⟩ := hrel
  by_cases a8 : q < L.length
  ·
   have h8 : L.length ≤ 9223372036854775807 := by have a1 := (Kd.N_reads' H6.out).2.2.2.1; rw [few20_len _ _ (by omega)] at a1; exact a1
   have EW : wrap64 ((q : Int) + 1) = ((q + 1 : Nat) : Int) := by unfold wrap64; omega
   obtain ⟨g, k0, e6, i0, e0, b5, b6⟩ := Kd.N_form H6.out (by rw [few20_len _ _ (by omega)]; omega)
   injection e6 with e6 e7 e8
   subst e6
   subst e8
   clear e7
   obtain ⟨c, k9, b3, a6, b8⟩ := Kd.N_elem H6.out z49 (q : Int) (by omega) (by omega)
   rw [Int.toNat_natCast, few20_at q L a8] at b3
   rw [Int.toNat_natCast] at a6 b8
   have c6 := few20_set q L a8
   have b4 := few20_at q L a8
   generalize L[q] = t at *
   obtain ⟨A8, c8, h9, l8, k8⟩ := k49_open (Kd.FK_now b3)
   subst h9
   have t0 : wr.cell? ⟨g, q * 4, none⟩ = some (.slice A8 t.f0.length c8) := a6 0 _ rfl
   have t1 : wr.cell? ⟨g, q * 4 + 1, none⟩ = some (.int .i64 t.f1) := a6 1 _ rfl
   have t2 : wr.cell? ⟨g, q * 4 + 2, none⟩ = some (.int .i64 t.f2) := a6 2 _ rfl
   have t3 : wr.cell? ⟨g, q * 4 + 3, none⟩ = some (.int .i64 t.f3) := a6 3 _ rfl
   go_upto_region 5 with ((with_reducible refine q2x (N := 4) rfl ?_); refine q2s ?hg (N := 4) ?hd (cs := #[.slice none 0 0, .int .i64 0, .int .i64 0, .int .i64 0]) (t := 49) ?hr ?_; (case hd => rfl); (case hg => rfl); (case hr => first | (go_simp; done) | (go_simp; rfl)); intro g4 hg w8 a2 hb; fail)
   have h7 := q2j (o := .cells #[.string ky, .string nm, .slice (some ⟨g, 0, none⟩) L.length cc6, .int .i64 is, .slice A4 l4.length c4] 27 (0, 0)) B1.out
   have X4 := am (q1t wr (.cells #[.slice A8 t.f0.length c8, .int .i64 t.f1, .int .i64 t.f2, .int .i64 t.f3] 49 (0, 0)))
   have X1 := am (q0h B1.out (.cells #[.slice A8 t.f0.length c8, .int .i64 t.f1, .int .i64 t.f2, .int .i64 t.f3] 49 (0, 0)))
   have X2 := am (q0h B2.out (.cells #[.slice A8 t.f0.length c8, .int .i64 t.f1, .int .i64 t.f2, .int .i64 t.f3] 49 (0, 0)))
   have XB := am (q0f HB.out (.cells #[.slice A8 t.f0.length c8, .int .i64 t.f1, .int .i64 t.f2, .int .i64 t.f3] 49 (0, 0)))
   have XN := am (Kd.N_alloc (Kd.N_bound H6.out) (.cells #[.slice A8 t.f0.length c8, .int .i64 t.f1, .int .i64 t.f2, .int .i64 t.f3] 49 (0, 0)))
   have h2 := am (show g1 ≠ g from fun he => by have a1 := B1.out; rw [he, b6] at a1; simp at a1)
   have h3 := am (show g2 ≠ g from fun he => by have a1 := B2.out; rw [he, b6] at a1; simp at a1)
   have d3 := am (show g1 ≠ wr.heap.size from Nat.ne_of_lt (q2j B1.out))
   have G4 := am (show w.heap.size ≤ wr.heap.size from q0m HB.out)
   have h4 : g ≠ wr.heap.size := Nat.ne_of_lt e0
   have h5 := h4.symm
   have g9 := d3.out
   have h0 := d3.out.symm
   have bA : Below wr.heap.size wr (wr.alloc (.cells #[.slice A8 t.f0.length c8, .int .i64 t.f1, .int .i64 t.f2, .int .i64 t.f3] 49 (0, 0))) := q0f (Below.refl _ _) _
   have s0 := (bA.cell (World.block_lt_of_cell? wr _ t0)).trans t0
   have s1 := (bA.cell (World.block_lt_of_cell? wr _ t1)).trans t1
   have s2 := (bA.cell (World.block_lt_of_cell? wr _ t2)).trans t2
   have s3 := (bA.cell (World.block_lt_of_cell? wr _ t3)).trans t3
   have XK := am (Kd.FK_below (Kd.FK_bound b3) bA)
   have k7 : (wr.alloc (.cells #[.slice A8 t.f0.length c8, .int .i64 t.f1, .int .i64 t.f2, .int .i64 t.f3] 49 (0, 0))).frozen? ⟨g, q * 4, none⟩ = false := by
    have a1 := b8 0
    unfold World.frozen? at a1 ⊢
    rw [bA.block g e0]
    exact a1
   clear B1 B2 HB H6 t0 t1 t2 t3 a6 b8 b3 h7 b6 bA
   have B1 := X1
   have B2 := X2
   have B4 := X4
   have HB := XB
   have H6 := XN
   clear X1 X2 X4 XB XN
   have j9 : (wr.alloc (.cells #[.slice A8 t.f0.length c8, .int .i64 t.f1, .int .i64 t.f2, .int .i64 t.f3] 49 (0, 0))).cell? ⟨wr.heap.size, 0, none⟩ = some (.slice A8 t.f0.length c8) := bc B4.out
   have a3 : (wr.alloc (.cells #[.slice A8 t.f0.length c8, .int .i64 t.f1, .int .i64 t.f2, .int .i64 t.f3] 49 (0, 0))).cell? ⟨g1, 2, none⟩ = some (.slice (some ⟨g, 0, none⟩) L.length cc6) := bc B1.out
   generalize wr.alloc (.cells #[.slice A8 t.f0.length c8, .int .i64 t.f1, .int .i64 t.f2, .int .i64 t.f3] 49 (0, 0)) = w8 at *
   generalize wr.heap.size = g4 at *
   have p1 : (0 : Int) ≤ mn (t.f0.length : Int) 20 := by unfold mn; split <;> omega
   have p2 : mn (t.f0.length : Int) 20 ≤ (c8 : Int) := by unfold mn; split <;> omega
   have p3 : (q : Int) < (L.length : Int) := by omega
   have i1 : (mn (t.f0.length : Int) 20).toNat ≤ t.f0.length := by unfold mn; split <;> omega
   have a9 : (t.f0.take (mn (t.f0.length : Int) 20).toNat).length = (mn (t.f0.length : Int) 20).toNat := by rw [List.length_take]; omega
   have b7 : cutT t = ⟨t.f0.take (mn (t.f0.length : Int) 20).toNat, t.f1, t.f2, t.f3⟩ := by
    unfold cutT
    congr 1
    rw [List.take_eq_take_iff]
    unfold mn
    split <;> omega
   have c7 : Kd.FK k49 w8 (fun k => ((fun k_ => ((P2 k_ ∧ k_ < w.heap.size) ∨ w2.heap.size ≤ k_)) k ∧ k ≠ g)) (cutT t) ([(.slice A8 (mn (t.f0.length : Int) 20).toNat c8), .int .i64 t.f1, .int .i64 t.f2, .int .i64 t.f3] : List Value) := by
    intro W' hW
    have a1 := XK.out W' (fun k hk a8 => hW k hk.1 a8)
    obtain ⟨A', c', d6, l', g'⟩ := k49_open a1
    simp only [List.cons.injEq, Value.slice.injEq] at d6
    obtain ⟨⟨rfl, _, rfl⟩, _⟩ := d6
    rw [b7]
    have a5 := Kd.C_take g' (m := (mn (t.f0.length : Int) 20).toNat) i1
    have a4 := k49_mk W' ⟨t.f0.take (mn (t.f0.length : Int) 20).toNat, t.f1, t.f2, t.f3⟩ (A0 := A8) (c0 := c8) (by simp only; rw [a9]; omega) a5
    simp only at a4
    rw [a9] at a4
    exact a4
   obtain ⟨NN, NG⟩ := Kd.N_seg (Kd.N_mono H6.out (ok' := (fun k_ => ((P2 k_ ∧ k_ < w.heap.size) ∨ w2.heap.size ≤ k_))) (fun _ h => h.1)) (q : Int) (by omega) (by omega) (c := [.slice A8 t.f0.length c8, .int .i64 t.f1, .int .i64 t.f2, .int .i64 t.f3]) (seg := [(.slice A8 (mn (t.f0.length : Int) 20).toNat c8)]) (j := 0) rfl
    (fun j v hj => by
     rw [Int.toNat_natCast]
     rcases j with _ | _ | _ | _ | j
     ·
      simp at hj; subst hj; exact s0
     ·
      simp at hj; subst hj; exact s1
     ·
      simp at hj; subst hj; exact s2
     ·
      simp at hj; subst hj; exact s3
     simp at hj) (by show 0 + 1 ≤ 4; decide) (x' := cutT t) c7 (fun _ h => h)
   have XN := am (show Kd.N k49 49 (w8.setCell ⟨g, q * 4, none⟩ (.slice A8 (mn (t.f0.length : Int) 20).toNat c8)) w.heap.size (fun k_ => ((P2 k_ ∧ k_ < w.heap.size) ∨ w2.heap.size ≤ k_)) (.slice (some ⟨g, 0, none⟩) L.length cc6) (few20 (q + 1) L) from by
    have a1 := NN
    rw [Int.toNat_natCast, c6] at a1
    exact a1)
   have X1 := am (show (w8.setCell ⟨g, q * 4, none⟩ (.slice A8 (mn (t.f0.length : Int) 20).toNat c8)).heap[g1]? = some (.cells #[.string ky, .string nm, .slice (some ⟨g, 0, none⟩) L.length cc6, .int .i64 is, .slice A4 l4.length c4] 27 (0, 0)) from q0n B1.out h2.out _)
   have X2 := am (show (w8.setCell ⟨g, q * 4, none⟩ (.slice A8 (mn (t.f0.length : Int) 20).toNat c8)).heap[g2]? = some (.cells #[(.string (⟨#[]⟩ : ByteArray)), (.string (⟨#[]⟩ : ByteArray)), (.slice none 0 0), (.int .i64 0), (.slice none 0 0)] 27 (0, 0)) from q0n B2.out h3.out _)
   have XB := am (show Below w.heap.size w (w8.setCell ⟨g, q * 4, none⟩ (.slice A8 (mn (t.f0.length : Int) 20).toNat c8)) from q0o HB.out i0)
   clear XK c7 NN NG B1 B2 B4 HB H6
   go_region
   go_wp2
   go_roundw
   case rel => exact ⟨q + 1, by go_num, ⟨by omega⟩, ⟨Kd.N_drew XN.out⟩, ⟨q0g X1.out⟩, ⟨q0g X2.out⟩, ⟨q1m XB.out⟩⟩
   case measure => simp [intOf]; omega
  obtain rfl : q = L.length := by have := HQ.out; omega
  rw [few20_all, hL.out] at H6
  have j0 : wr.cell? ⟨g1, 0, none⟩ = some (.string ky) := bc B1.out
  have a3 : wr.cell? ⟨g1, 1, none⟩ = some (.string nm) := bc B1.out
  have j1 : wr.cell? ⟨g1, 2, none⟩ = some (.slice A6 L.length cc6) := bc B1.out
  have j2 : wr.cell? ⟨g1, 3, none⟩ = some (.int .i64 is) := bc B1.out
  have j3 : wr.cell? ⟨g1, 4, none⟩ = some (.slice A4 l4.length c4) := bc B1.out
  have k1 := q0j B1.out 4
  have j4 : wr.cell? ⟨g2, 0, none⟩ = some (.string (⟨#[]⟩ : ByteArray)) := bc B2.out
  have k2 := q0j B2.out 0
  have j5 : wr.cell? ⟨g2, 1, none⟩ = some (.string (⟨#[]⟩ : ByteArray)) := bc B2.out
  have k3 := q0j B2.out 1
  have j6 : wr.cell? ⟨g2, 2, none⟩ = some (.slice none 0 0) := bc B2.out
  have k4 := q0j B2.out 2
  have j7 : wr.cell? ⟨g2, 3, none⟩ = some (.int .i64 0) := bc B2.out
  have k5 := q0j B2.out 3
  have j8 : wr.cell? ⟨g2, 4, none⟩ = some (.slice none 0 0) := bc B2.out
  have k6 := q0j B2.out 4
  have l1 := b2.out
  have l2 := b2.out.symm
  have p1 : (0 : Int) ≤ mn (l4.length : Int) 20 := by unfold mn; split <;> omega
  have p2 : mn (l4.length : Int) 20 ≤ (c4 : Int) := by have := f7.out; unfold mn; split <;> omega
  have e1 : q0e ((mn (l4.length : Int) 20).toNat = (l4.take 20).length) := ⟨by rw [List.length_take]; unfold mn; split <;> omega⟩
  go_wp2
  have X1 := am (show (wr.setCell ⟨g1, 4, none⟩ (.slice A4 (mn (l4.length : Int) 20).toNat c4)).heap[g2]? = some (.cells #[(.string (⟨#[]⟩ : ByteArray)), (.string (⟨#[]⟩ : ByteArray)), (.slice none 0 0), (.int .i64 0), (.slice none 0 0)] 27 (0, 0)) from q0n B2.out b2.out.symm _)
  refine bodyPost_ret (q3j rfl (.cell g2 27 #[.string ky, .string nm, .slice A6 L.length cc6, .int .i64 is, .slice A4 (mn (l4.length : Int) 20).toNat c4] (0, 0) _ rfl (q0q (cs := #[.string ky, .string nm, .slice A6 L.length cc6, .int .i64 is, (.slice none 0 0)]) (cs' := #[.string ky, .string nm, .slice A6 L.length cc6, .int .i64 is, .slice A4 (mn (l4.length : Int) 20).toNat c4]) (q0q (cs := #[.string ky, .string nm, .slice A6 L.length cc6, (.int .i64 0), (.slice none 0 0)]) (cs' := #[.string ky, .string nm, .slice A6 L.length cc6, .int .i64 is, (.slice none 0 0)]) (q0q (cs := #[.string ky, .string nm, (.slice none 0 0), (.int .i64 0), (.slice none 0 0)]) (cs' := #[.string ky, .string nm, .slice A6 L.length cc6, (.int .i64 0), (.slice none 0 0)]) (q0q (cs := #[.string ky, (.string (⟨#[]⟩ : ByteArray)), (.slice none 0 0), (.int .i64 0), (.slice none 0 0)]) (cs' := #[.string ky, .string nm, (.slice none 0 0), (.int .i64 0), (.slice none 0 0)]) (q0q (cs := #[(.string (⟨#[]⟩ : ByteArray)), (.string (⟨#[]⟩ : ByteArray)), (.slice none 0 0), (.int .i64 0), (.slice none 0 0)]) (cs' := #[.string ky, (.string (⟨#[]⟩ : ByteArray)), (.slice none 0 0), (.int .i64 0), (.slice none 0 0)]) X1.out 0 _ rfl) 1 _ rfl) 2 _ rfl) 3 _ rfl) 4 _ rfl) Try.underlying27 rfl (by kernel_rfl) .nil)) rfl ?_
  have b0 : ∀ k_, ((P2 k_ ∧ k_ < w.heap.size) ∨ w2.heap.size ≤ k_) → k_ ≠ g2 := by
   intro k_ a0
   have a5 := G2.out
   have a4 := b1.out.2
   rintro rfl
   rcases a0 with ⟨_, a0⟩ | a0 <;> omega
  have b9 : ∀ k_, ((P2 k_ ∧ k_ < w.heap.size) ∨ w2.heap.size ≤ k_) → k_ ≠ g1 := by
   intro k_ a0
   have a5 := G1.out
   have a4 := b1.out.1
   rintro rfl
   rcases a0 with ⟨_, a0⟩ | a0 <;> omega
  have c9 : Below w.heap.size w ((((((wr.setCell ⟨g1, 4, none⟩ (.slice A4 (mn (l4.length : Int) 20).toNat c4)).setCell ⟨g2, 0, none⟩ (.string ky)).setCell ⟨g2, 1, none⟩ (.string nm)).setCell ⟨g2, 2, none⟩ (.slice A6 L.length cc6)).setCell ⟨g2, 3, none⟩ (.int .i64 is)).setCell ⟨g2, 4, none⟩ (.slice A4 (mn (l4.length : Int) 20).toNat c4)) := q0o (q0o (q0o (q0o (q0o (q0o HB.out G1.out) G2.out) G2.out) G2.out) G2.out) G2.out
  have f9 := (show Kd.N k49 49 (wr.setCell ⟨g1, 4, none⟩ (.slice A4 (mn (l4.length : Int) 20).toNat c4)) w.heap.size (fun k_ => ((P2 k_ ∧ k_ < w.heap.size) ∨ w2.heap.size ≤ k_)) (.slice A6 L.length cc6) r2 from Kd.N_far H6.out b9 _)
  have g0 := (show Kd.N k49 49 ((wr.setCell ⟨g1, 4, none⟩ (.slice A4 (mn (l4.length : Int) 20).toNat c4)).setCell ⟨g2, 0, none⟩ (.string ky)) w.heap.size (fun k_ => ((P2 k_ ∧ k_ < w.heap.size) ∨ w2.heap.size ≤ k_)) (.slice A6 L.length cc6) r2 from Kd.N_far f9 b0 _)
  have g3 := (show Kd.N k49 49 (((wr.setCell ⟨g1, 4, none⟩ (.slice A4 (mn (l4.length : Int) 20).toNat c4)).setCell ⟨g2, 0, none⟩ (.string ky)).setCell ⟨g2, 1, none⟩ (.string nm)) w.heap.size (fun k_ => ((P2 k_ ∧ k_ < w.heap.size) ∨ w2.heap.size ≤ k_)) (.slice A6 L.length cc6) r2 from Kd.N_far g0 b0 _)
  have g5 := (show Kd.N k49 49 ((((wr.setCell ⟨g1, 4, none⟩ (.slice A4 (mn (l4.length : Int) 20).toNat c4)).setCell ⟨g2, 0, none⟩ (.string ky)).setCell ⟨g2, 1, none⟩ (.string nm)).setCell ⟨g2, 2, none⟩ (.slice A6 L.length cc6)) w.heap.size (fun k_ => ((P2 k_ ∧ k_ < w.heap.size) ∨ w2.heap.size ≤ k_)) (.slice A6 L.length cc6) r2 from Kd.N_far g3 b0 _)
  have g6 := (show Kd.N k49 49 (((((wr.setCell ⟨g1, 4, none⟩ (.slice A4 (mn (l4.length : Int) 20).toNat c4)).setCell ⟨g2, 0, none⟩ (.string ky)).setCell ⟨g2, 1, none⟩ (.string nm)).setCell ⟨g2, 2, none⟩ (.slice A6 L.length cc6)).setCell ⟨g2, 3, none⟩ (.int .i64 is)) w.heap.size (fun k_ => ((P2 k_ ∧ k_ < w.heap.size) ∨ w2.heap.size ≤ k_)) (.slice A6 L.length cc6) r2 from Kd.N_far g5 b0 _)
  have g7 := (show Kd.N k49 49 ((((((wr.setCell ⟨g1, 4, none⟩ (.slice A4 (mn (l4.length : Int) 20).toNat c4)).setCell ⟨g2, 0, none⟩ (.string ky)).setCell ⟨g2, 1, none⟩ (.string nm)).setCell ⟨g2, 2, none⟩ (.slice A6 L.length cc6)).setCell ⟨g2, 3, none⟩ (.int .i64 is)).setCell ⟨g2, 4, none⟩ (.slice A4 (mn (l4.length : Int) 20).toNat c4)) w.heap.size (fun k_ => ((P2 k_ ∧ k_ < w.heap.size) ∨ w2.heap.size ≤ k_)) (.slice A6 L.length cc6) r2 from Kd.N_far g6 b0 _)
  have g8 := (show Kd.F k51 ((((((wr.setCell ⟨g1, 4, none⟩ (.slice A4 (mn (l4.length : Int) 20).toNat c4)).setCell ⟨g2, 0, none⟩ (.string ky)).setCell ⟨g2, 1, none⟩ (.string nm)).setCell ⟨g2, 2, none⟩ (.slice A6 L.length cc6)).setCell ⟨g2, 3, none⟩ (.int .i64 is)).setCell ⟨g2, 4, none⟩ (.slice A4 (mn (l4.length : Int) 20).toNat c4)) (fun k_ => P4 k_) A4 (l4.take 20).length (l4.take 20) from Kd.F_below (Kd.F_take f8.out (m := (mn (l4.length : Int) 20).toNat) (by unfold mn; split <;> omega) |> fun h_ => by have e_ : l4.take (mn (l4.length : Int) 20).toNat = l4.take 20 := (by rw [List.take_eq_take_iff]; unfold mn; split <;> omega); rwa [e_] at h_) c9)
  have d2 := Kd.V_mk (e := 51) (base := w.heap.size) (c := c4) (by have h_ := e1.out; omega) g8
  rw [← e1.out] at d2
  refine ⟨_, _, rfl, Kd.V_mono (Kd.N_V g7) (fun k_ a0 => ?_), Kd.V_mono d2 (fun k_ a0 => .inl (.inr a0)), c9⟩
  have a5 := G2.out
  have a4 := b1.out.2
  rcases a0 with ⟨a0, _⟩ | a0
  ·
   exact .inl (.inl a0)
  exact .inr (by omega)
theorem X.Gl.calls (k : Nat) (a6 a7 : ByteArray) (a0 : Nat → Prop) (a4 : Option Addr) (a9 : Nat) (a2 : List S49) (a8 : Int) (a1 : Nat → Prop) (a5 : Option Addr) (b0 : Nat) (a3 : List S51) (r1 r2 : ByteArray) (r3 : List S49) (r4 : Int) (r5 : List S51) (w : World) (b1 : Kd.V k49 49 w w.heap.size (fun k_ => a0 k_) (.slice a4 a2.length a9) a2) (b2 : Kd.V k51 51 w w.heap.size (fun k_ => a1 k_) (.slice a5 a3.length b0) a3) (h : X.Gl.f k a6 a7 a2 a8 a3 = some (r1, r2, r3, r4, r5)) :
  Calls Try.prog 9 #[.agg #[.string a6, .string a7, .slice a4 a2.length a9, .int .i64 a8, .slice a5 a3.length b0]] w fun e w' => ∃ b3 b4 : Value, e = .returned (.agg #[.string r1, .string r2, b3, .int .i64 r4, b4]) ∧ Kd.V k49 49 w' w.heap.size (fun k_ => ((a0 k_ ∨ a1 k_) ∨ w.heap.size ≤ k_)) b3 r3 ∧ Kd.V k51 51 w' w.heap.size (fun k_ => ((a0 k_ ∨ a1 k_) ∨ w.heap.size ≤ k_)) b4 r5 ∧ Below w.heap.size w w' := by
 unfold X.Gl.f at h
 simp only [Option.some.injEq, Prod.mk.injEq] at h
 obtain ⟨rfl, rfl, h3, rfl, rfl⟩ := h
 exact few_calls a6 a7 a0 a4 a9 a2 a8 a1 a5 b0 a3 r3 w h3 b1 b2
end Go.Proofs.Ytabmkighhmchmaa
namespace Go.Proofs.Ytabmkighhmchmaa
open Go.RowKit Go.Shelf Go.YW.PrintWords Go.YW.PrintLast Go.YW.PrintMore Go.YW.Sq
open X (S49 S51 k49 k51 q0d q0a q1s q1j z51)
set_option linter.unusedVariables false
set_option linter.unusedSimpArgs false
theorem mendF_le {ts : List S49} {is : Int} {xs : List S51} {p : Int × List S51} (h : mendF ts is xs = some p) : xs.length ≤ 1000000 := by
 unfold mendF at h
 by_cases hl : xs.length ≤ 1000000
 ·
  exact hl
 rw [if_neg hl] at h; cases h
def newPost (ky nm : ByteArray) (A1 : Option Addr) (c1 : Nat) (ts : List S49) (w : World) (p : Int × Int × List S51) (e : Ending) (w' : World) : Prop :=
 ((p.1 = 0 ∧ ∃ v, e = .returned (.tuple #[.agg #[(.string ky), (.string nm), (.slice A1 ts.length c1), (.int .i64 p.2.1), v], .int .i64 0]) ∧ Kd.R k51 51 w' w.heap.size (fun _ => True) v p.2.2) ∨
  (p.1 ≠ 0 ∧ e = .returned (.tuple #[zeroRun, .int .i64 p.1]))) ∧ Below w.heap.size w w'
set_option maxHeartbeats 4000000 in
set_option maxRecDepth 100000 in
theorem new_calls (k : Nat) (ky nm : ByteArray) (A1 : Option Addr) (c1 : Nat) (ts : List S49) (p : Int × Int × List S51) (w : World) (hT : Kd.C k49 w A1 ts.length ts) (ht : ts.length ≤ c1) (h : newO k ky nm ts = some p) :
  Calls Try.prog 10 #[.string ky, .agg #[(.string nm), (.slice A1 ts.length c1)]] w fun e w' => newPost ky nm A1 c1 ts w p e w' := by
 have c8 := Try.underlying27
 have b9 := Try.underlying24
 have b8 := Try.underlying22
 have HT := am hT
 have a8 := am ht
 have HB := am (Below.refl w.heap.size w)
 have HH := am h
 clear hT ht h
 rcases hb_ : (if ky.size < 1 then false else if 16 < ky.size then false else true : Bool) with _ | _
 ·
  have hp : p = (1, 0, []) := by
   have h_ := HH.out
   unfold newO at h_
   split at h_
   ·
    exact (Option.some.inj h_).symm
   split at h_
   ·
    exact (Option.some.inj h_).symm
   rename_i h1 h2; rw [if_neg h1, if_neg h2] at hb_; cases hb_
  have a7 := am hb_
  subst hp
  clear HH hb_
  go_enter Try.func10, Try.ntmps10
  go_wp2_with (first | ((with_reducible refine gD 3 ?_); refine bz 3 (#[(.string nm), (.slice A1 ts.length c1)] : Array Value) 24 HB ?_; clear HB; intro g1 hg a5 hb B1 a3 HB; clear hb hg) | ((with_reducible refine gD 4 ?_); refine bz 4 (#[(.string (⟨#[]⟩ : ByteArray)), (.string (⟨#[]⟩ : ByteArray)), (.slice none 0 0), (.int .i64 0), (.slice none 0 0)] : Array Value) 27 HB ?_; clear HB; intro g2 hg a6 hb B2 a4 HB; have a0 := nP hg B1; have a1 := am a0.out.symm; replace B1 := kP B1 hb; clear hb hg) | (go_at_call 28; refine (q3b ky false a7.out _).mono ?_; rintro e w3 ⟨rfl, hb⟩; replace B1 := kP B1 hb; replace B2 := kP B2 hb; replace HB := bS HB hb; clear hb; obtain ⟨d0, d1, d2, d3, d4⟩ := ce5 B2.out; obtain ⟨a9, b2, b3, b4, b5⟩ := z5 B2.out))
  refine bodyPost_ret (q1h rfl _ _ g2 27 (#[(.string (⟨#[]⟩ : ByteArray)), (.string (⟨#[]⟩ : ByteArray)), (.slice none 0 0), (.int .i64 0), (.slice none 0 0)] : Array Value) (0, 0) _ rfl (pP B2.out) Try.underlying27 rfl (by kernel_rfl)) rfl ?_
  exact ⟨.inr ⟨by decide, rfl⟩, pB HB.out⟩
 obtain ⟨e_, he, hh⟩ : ∃ e_, Ga.f k nm ts = some e_ ∧ (if e_ ≠ 0 then some (e_, 0, []) else (mendF ts 0 (List.replicate ts.length z51)).bind fun p => some (0, p.1, p.2)) = some p := by
  have h_ := HH.out
  unfold newO at h_
  split at h_
  ·
   rename_i h1; rw [if_pos h1] at hb_; cases hb_
  split at h_
  ·
   rename_i h1 h2; rw [if_neg h1, if_pos h2] at hb_; cases hb_
  exact Option.bind_eq_some_iff.1 h_
 have a7 := am hb_
 have HDR := am he
 clear HH hb_ he
 by_cases hi : e_ ≠ 0
 ·
  rw [if_pos hi] at hh
  obtain rfl := Option.some.inj hh
  have c9 : (e_ == 0) = false := beq_eq_false_iff_ne.2 hi
  have HI := am hi
  clear hh hi
  go_enter Try.func10, Try.ntmps10
  go_wp2_with (first | ((with_reducible refine gD 3 ?_); refine bz 3 (#[(.string nm), (.slice A1 ts.length c1)] : Array Value) 24 HB ?_; clear HB; intro g1 hg a5 hb B1 a3 HB; clear hb hg) | ((with_reducible refine gD 4 ?_); refine bz 4 (#[(.string (⟨#[]⟩ : ByteArray)), (.string (⟨#[]⟩ : ByteArray)), (.slice none 0 0), (.int .i64 0), (.slice none 0 0)] : Array Value) 27 HB ?_; clear HB; intro g2 hg a6 hb B2 a4 HB; have a0 := nP hg B1; have a1 := am a0.out.symm; replace B1 := kP B1 hb; clear hb hg) | (go_at_call 28; refine (q3b ky true a7.out _).mono ?_; rintro e w3 ⟨rfl, hb⟩; replace B1 := kP B1 hb; replace B2 := kP B2 hb; replace HB := bS HB hb; clear hb; obtain ⟨b0, b1⟩ := ce2 B1.out) | (go_at_call 29; refine (Ga.calls k nm A1 c1 ts _ _ (Kd.C_below HT.out HB.out) a8.out HDR.out).mono ?_; rintro e w4 ⟨rfl, hb⟩; replace B1 := kP B1 hb; replace B2 := kP B2 hb; replace HB := bS HB hb; clear b0 b1 hb; obtain ⟨d0, d1, d2, d3, d4⟩ := ce5 B2.out; obtain ⟨a9, b2, b3, b4, b5⟩ := z5 B2.out))
  refine bodyPost_ret (q1h rfl _ _ g2 27 (#[(.string (⟨#[]⟩ : ByteArray)), (.string (⟨#[]⟩ : ByteArray)), (.slice none 0 0), (.int .i64 0), (.slice none 0 0)] : Array Value) (0, 0) _ rfl (pP B2.out) Try.underlying27 rfl (by kernel_rfl)) rfl ?_
  exact ⟨.inr ⟨HI.out, rfl⟩, pB HB.out⟩
 rw [if_neg hi] at hh
 obtain ⟨⟨is', ys⟩, hm, hp⟩ := Option.bind_eq_some_iff.1 hh
 obtain rfl := Option.some.inj hp
 obtain rfl : e_ = 0 := by simpa using hi
 have HM := am hm
 clear hh hi hm hp
 have b6 : q0e (ts.length ≤ 1000000) := ⟨by have h_ := mendF_le HM.out; rwa [List.length_replicate] at h_⟩
 go_enter Try.func10, Try.ntmps10
 go_upto_region 6 with (first | ((with_reducible refine gD 3 ?_); refine bz 3 (#[(.string nm), (.slice A1 ts.length c1)] : Array Value) 24 HB ?_; clear HB; intro g1 hg a5 hb B1 a3 HB; clear hb hg) | ((with_reducible refine gD 4 ?_); refine bz 4 (#[(.string (⟨#[]⟩ : ByteArray)), (.string (⟨#[]⟩ : ByteArray)), (.slice none 0 0), (.int .i64 0), (.slice none 0 0)] : Array Value) 27 HB ?_; clear HB; intro g2 hg a6 hb B2 a4 HB; have a0 := nP hg B1; have a1 := am a0.out.symm; replace B1 := kP B1 hb; clear hb hg) | (go_at_call 28; refine (q3b ky true a7.out _).mono ?_; rintro e w3 ⟨rfl, hb⟩; replace B1 := kP B1 hb; replace B2 := kP B2 hb; replace HB := bS HB hb; clear hb; obtain ⟨b0, b1⟩ := ce2 B1.out) | (go_at_call 29; refine (Ga.calls k nm A1 c1 ts _ _ (Kd.C_below HT.out HB.out) a8.out HDR.out).mono ?_; rintro e w4 ⟨rfl, hb⟩; replace B1 := kP B1 hb; replace B2 := kP B2 hb; replace HB := bS HB hb; clear b0 b1 hb))
 refine q2a (n := 10) (S := fun w' => w'.cell? ⟨g1, 0, none⟩ = some (.string nm) ∧ w'.cell? ⟨g1, 1, none⟩ = some (.slice A1 ts.length c1)) (ds := [8]) (ba 10 0) (by kernel_rfl) rfl rfl ⟨((q0i (q0g B1.out) 0).trans rfl), ((q0i (q0g B1.out) 1).trans rfl)⟩ (fun a2 => ?_)
 refine ph 0 17 (ba 10 1) ?_
 refine ph 2 19 (ba 10 5) ?_
 refine th 1 18 (ba 10 7) a2 ?_
 refine th 3 20 (ba 10 15) a2 ?_
 refine ph 4 21 (ba 10 31) ?_
 refine oh 5 22 (ba 10 63) fun K hK => ?_
 refine Kd.R_make_step k51 (w0 := w) w.heap.size 51 (by rfl) (N := 22) rfl 25 (.tmp 21) (.tmp 21) rfl (ts.length : Int) rfl rfl Try.underlying25 (.agg #[.int .i64 0, .int .i64 0, .int .i64 0, .int .i64 0, .string ⟨#[]⟩]) 48 info51 rfl (by decide) (by decide) z51 (ok := fun _ => True) (okp := fun _ => False) ?aZ (fun _ hk => hk.elim) trivial (by omega) ?aL ?aB ?aS ?_
 case aZ => exact X.k51_mkM _ _ _ z51
 case aL => (have := b6.out; omega)
 case aB => exact (q0b HB.out)
 case aS => exact (q0m (q0b HB.out))
 intro v6 w6 ho hb hg b7
 rw [Int.toNat_natCast] at ho
 obtain ⟨A6, c6, e6⟩ := Kd.R_slice ho
 rw [List.length_replicate] at e6
 subst e6
 have H6 := am ho
 have X1 := am (q1n (q0g B1.out) hg (by intro h; cases h))
 have X2 := am (q1n (q0g B2.out) hg (by intro h; cases h))
 have XB := am hb
 clear B1 B2 HB hg b7 hb ho
 have B1 := X1
 have B2 := X2
 have HB := XB
 clear X1 X2 XB
 refine hK.out _ _ ⟨(bc B1.out), (bc B1.out)⟩ (fun a2 => ?_)
 clear hK K
 refine nh ?_
 refine ph 6 23 (ba 10 127) ?_
 refine oh 7 24 (ba 10 255) fun K hK => ?_
 refine q1r Try.func30 (by kernel_rfl) rfl #[.agg #[(.string ky), (.string nm), (.slice A1 ts.length c1), (.int .i64 0), (.slice A6 ts.length c6)]] (by rfl) rfl rfl (by simp only [List.map_toArray, List.map_cons, List.map_nil]; rfl) ?_
 with_reducible refine (mend_n ky nm A1 c1 ts 0 A6 c6 (List.replicate ts.length z51) ts.length List.length_replicate is' ys w6 (Kd.C_below HT.out HB.out) (by have h_ := (Kd.R_reads' H6.out).2.2; rwa [List.length_replicate] at h_ ⊢) HM.out).mono ?_
 rintro e w7 ⟨v7, rfl, ho, hb⟩
 refine ⟨_, rfl, ?_⟩
 obtain ⟨A7, c7, e7⟩ := Kd.R_slice ho
 subst e7
 have H7 := am (Kd.R_lower ho (q0m HB.out))
 have X1 := am (q0c B1.out hb)
 have X2 := am (q0c B2.out hb)
 have XB := am (q0k HB.out hb)
 clear B1 B2 HB hb ho
 have B1 := X1
 have B2 := X2
 have HB := XB
 clear X1 X2 XB
 obtain ⟨d0, d1, d2, d3, d4⟩ := ce5 B2.out
 obtain ⟨a9, b2, b3, b4, b5⟩ := z5 B2.out
 refine hK.out _ _ ⟨(bc B1.out), (bc B1.out)⟩ (fun a2 => ?_)
 clear hK K
 refine nh ?_
 refine last_ (i := 8) (N := none) (ba 10 511) rfl rfl (by kernel_rfl) (by decide) (fun K hK => ?_)
 refine skip_ (w1 := ?_) (by rfl) rfl ?_ ?_
 rotate_left
 ·
  go_simp
  rfl
 refine hK.out _ _ ?_
 clear hK K
 refine ph 9 5 (ba 10 1023) ?_
 refine q1w (by kernel_rfl) ?_
 go_wp2
 refine bodyPost_ret (q1h rfl _ _ g2 27 (#[(.string ky), (.string nm), (.slice A1 ts.length c1), (.int .i64 is'), (.slice A7 ys.length c7)] : Array Value) (0, 0) _ rfl (pP B2.out) Try.underlying27 rfl (by kernel_rfl)) rfl ?_
 exact ⟨.inl ⟨rfl, _, rfl, (Kd.R_set (Kd.R_set (Kd.R_set (Kd.R_set (Kd.R_set H7.out (pP (cs' := #[(.string (⟨#[]⟩ : ByteArray)), (.string (⟨#[]⟩ : ByteArray)), (.slice none 0 0), (.int .i64 0), (.slice none 0 0)]) B2.out) (by decide) _ _) (pP (cs' := #[(.string ky), (.string (⟨#[]⟩ : ByteArray)), (.slice none 0 0), (.int .i64 0), (.slice none 0 0)]) B2.out) (by decide) _ _) (pP (cs' := #[(.string ky), (.string nm), (.slice none 0 0), (.int .i64 0), (.slice none 0 0)]) B2.out) (by decide) _ _) (pP (cs' := #[(.string ky), (.string nm), (.slice A1 ts.length c1), (.int .i64 0), (.slice none 0 0)]) B2.out) (by decide) _ _) (pP (cs' := #[(.string ky), (.string nm), (.slice A1 ts.length c1), (.int .i64 is'), (.slice none 0 0)]) B2.out) (by decide) _ _)⟩, pB HB.out⟩
namespace X
theorem Gt.calls (k : Nat) (a0 a5 : ByteArray) (a1 : Nat → Prop) (a4 : Option Addr) (a6 : Nat) (a2 : List S49) (r1 r2 : ByteArray) (r3 : List S49) (r4 : Int) (r5 : List S51) (r6 : Int) (w : World) (a3 : Kd.V k49 49 w w.heap.size (fun k_ => a1 k_) (.slice a4 a2.length a6) a2) (h : Gt.f k a0 a5 a2 = some (r1, r2, r3, r4, r5, r6)) :
  Calls Try.prog 10 #[.string a0, .agg #[.string a5, .slice a4 a2.length a6]] w fun e w' => ∃ a7 a8 : Value, e = .returned (.tuple #[.agg #[.string r1, .string r2, a7, .int .i64 r4, a8], .int .i64 r6]) ∧ Kd.V k49 49 w' w.heap.size (fun k_ => (a1 k_ ∨ w.heap.size ≤ k_)) a7 r3 ∧ Kd.V k51 51 w' w.heap.size (fun k_ => (a1 k_ ∨ w.heap.size ≤ k_)) a8 r5 ∧ Below w.heap.size w w' := by
 obtain ⟨p, hp, h⟩ := Option.bind_eq_some_iff.1 h
 obtain ⟨_, b0, a9⟩ := Kd.V_reads' a3
 refine (new_calls k a0 a5 a4 a6 a2 p w a9 b0 hp).mono ?_
 rintro e w' ⟨h1, hb⟩
 have hr := Option.some.inj h
 rcases h1 with ⟨h0, v, rfl, ho⟩ | ⟨h0, rfl⟩
 ·
  unfold q3w at hr
  rw [if_pos h0] at hr
  cases hr
  exact ⟨_, v, rfl, Kd.V_mono (Kd.V_below a3 hb) (fun k hk => .inl hk), Kd.R_V (Kd.R_mono (Kd.R_bound ho) (fun k hk => .inr hk.2.1)), hb⟩
 unfold q3w at hr
 rw [if_neg h0] at hr
 cases hr
 exact ⟨_, _, rfl, Kd.V_nil _ _ _ _ _, Kd.V_nil _ _ _ _ _, hb⟩
end X
end Go.Proofs.Ytabmkighhmchmaa
namespace Go.Proofs.Ytabmkighhmchmaa
open Go.RowKit Go.Shelf Go.YW.PrintWords Go.YW.PrintLast Go.YW.PrintMore Go.YW.Sq
open X (S49 S51 k49 k51 q0d q0a q1s q1j z51)
set_option linter.unusedVariables false
set_option linter.unusedSimpArgs false
attribute [local go_sem] Oper.semAt_some
theorem own_R {A B : World} {row : Option Nat} {base : Nat} {ok : Nat → Prop} {v : Value} {ys : List S51} (h : Kd.R k51 51 A base ok v ys) (hg : A.grownBy B row) (hr : ∀ r, row = some r → ∃ o : Obj, A.heap[r]? = some o ∧ o.isCells = false) : Kd.R k51 51 B base ok v ys :=
 Kd.R_grown2 h rfl hg (fun k e hk => by
  obtain ⟨inner, ho⟩ := Kd.R_own h
  obtain ⟨a0, hc⟩ := own_typed ho k hk.symm
  obtain ⟨ob, h1, h2⟩ := hr k e
  rw [hc] at h1
  cases h1
  cases h2)
theorem load29 (w : World) (g : Nat) (v : Value) (h : w.cell? ⟨g, 0, none⟩ = some v) : (loadVar 29 ⟨g, 0, none⟩).run Try.prog w = .ok v w := by
 have hu := Try.underlying29
 simp [loadVar, hu, h, go_sem]
end Go.Proofs.Ytabmkighhmchmaa
namespace Go.Proofs.Ytabmkighhmchmaa
open Go.RowKit Go.Shelf Go.YW.PrintWords Go.YW.PrintLast Go.YW.PrintMore Go.YW.Sq
open X (S49 S51 k49 k51 q0d q0a q1s q1j z51)
set_option linter.unusedVariables false
set_option linter.unusedSimpArgs false
set_option maxHeartbeats 1000000 in
theorem tok_test (g : Nat) (a0 : Int) (s : S51) (w : World) (hg : w.heap[g]? = some (.cells #[.int .i64 a0] 3 (0, 0))) :
  Calls Try.prog 62 #[.agg #[(.int .i64 s.f0), (.int .i64 s.f1), (.int .i64 s.f2), (.int .i64 s.f3), (.string s.f4)], .pointer (some ⟨g, 0, none⟩)] w fun e w' => e = .returned (.bool (s.f3 == a0)) ∧ Below w.heap.size w w' := by
 have a5 := Try.underlying51
 have HB := am (Below.refl w.heap.size w)
 have BG := am hg
 clear hg
 go_enter Try.func62, Try.ntmps62
 go_wp2_with ((with_reducible refine gD 2 ?_); refine bz 2 (#[(.int .i64 s.f0), (.int .i64 s.f1), (.int .i64 s.f2), (.int .i64 s.f3), (.string s.f4)] : Array Value) 51 HB ?_; clear HB; intro g2 hg a3 hb B2 a4 HB; have a1 := nP hg BG; have a2 := am a1.out.symm; replace BG := kP BG hb; clear hb hg; obtain ⟨b0, b1, b2, b3, b4⟩ := ce5 B2.out; have k0 : a3.cell? ⟨g, 0, none⟩ = some (.int .i64 a0) := bc BG.out)
 go_ret
 exact ⟨rfl, HB.out⟩
set_option maxHeartbeats 1000000 in
theorem tok_idx (g : Nat) (a0 : Int) (A0 : Option Addr) (c0 : Nat) (l0 : List S51) (w : World) (a4 : Kd.C k51 w A0 l0.length l0) (hl : l0.length ≤ 1000000) (hg : w.heap[g]? = some (.cells #[.int .i64 a0] 3 (0, 0))) :
  Calls Try.prog 86 #[.slice A0 l0.length c0, .func (.func 62) #[] #[.pointer (some ⟨g, 0, none⟩)]] w fun e w' => (∃ i : Int, e = .returned (.int .i64 i) ∧ decide (i ≥ 0) = l0.any fun s => s.f3 == a0) ∧ Below w.heap.size w w' := by
 have b1 := Try.underlying51
 have HR := am a4
 have HL := am hl
 obtain ⟨r, hr⟩ : ∃ r, (l0.any fun s => s.f3 == a0) = r := ⟨_, rfl⟩
 rw [hr]
 have HH := am hr
 have BG := am hg
 clear hl hr a4 hg
 obtain ⟨n, hn⟩ : ∃ n : Nat, l0.length = n := ⟨_, rfl⟩
 rw [hn] at HR HL ⊢
 have HN := am hn
 clear hn
 go_enter Try.func86, Try.ntmps86
 go_wp2
 go_loopw [8] (fun i wr => ∃ q : Nat, q ≤ n ∧ i = .int .i64 q ∧ q0e (((l0.drop q).any fun s => s.f3 == a0) = r) ∧ q0e (Below w.heap.size w wr)) (fun i _ => n - (intOf i).toNat)
 case atStart => exact ⟨0, Nat.zero_le _, rfl, HH, ⟨Below.refl _ _⟩⟩
 case round =>
  obtain ⟨q, hk, rfl, HA, HB⟩ := hrel
  by_cases b2 : q < n
  ·
   have hn := HN.out
   have b0 := HL.out
   obtain ⟨ad, rfl, a5, a6, a7, a8, a9⟩ := q1j (Kd.C_below HR.out HB.out) (q : Int) (by omega) (by omega)
   have et : q0a l0 (q : Int) = l0[q]'(by omega) := by simp [q0a, List.getD_eq_getElem?_getD, List.getElem?_eq_getElem (show q < l0.length by omega)]
   have ha := HA.out
   rw [List.drop_eq_getElem_cons (by omega), List.any_cons] at ha
   rw [et] at a5 a6 a7 a8 a9
   have BW := am (q0c BG.out HB.out)
   clear et
   generalize l0[q]'(by omega) = s at *
   rw [Int.toNat_natCast] at a5 a6 a7 a8 a9
   have a2 := am ha
   clear ha HA hn
   have HT := am (fun (W : World) hW => tok_test g a0 s W hW)
   cases hb : (s.f3 == a0)
   ·
    have a1 := am hb
    clear hb
    have HA := am (show ((l0.drop (q + 1)).any fun s => s.f3 == a0) = r from by have h_ := a2.out; rw [a1.out, Bool.false_or] at h_; exact h_)
    clear a2
    go_wp2_with (go_at_call 62; refine (HT.out _ (by (with_reducible repeat (first | refine q0u ?_ _ | refine q0g ?_ | refine q0h ?_ _)); exact BW.out)).mono ?_; rintro e w1 ⟨rfl, hb⟩; rw [a1.out]; have a3 := am (q0k (by repeat (first | (with_reducible first | exact HB.out | apply q0f | apply q0l | apply q0b) | exact HB.out)) hb); clear hb)
    go_roundw
    case rel => exact ⟨q + 1, by omega, by go_num, HA, a3⟩
    case measure => simp [intOf]; omega
   have a1 := am hb
   clear hb
   obtain rfl : true = r := by have h_ := a2.out; rw [a1.out, Bool.true_or] at h_; exact h_
   clear a2
   go_wp2_with (go_at_call 62; refine (HT.out _ (by (with_reducible repeat (first | refine q0u ?_ _ | refine q0g ?_ | refine q0h ?_ _)); exact BW.out)).mono ?_; rintro e w1 ⟨rfl, hb⟩; rw [a1.out]; have a3 := am (q0k (by repeat (first | (with_reducible first | exact HB.out | apply q0f | apply q0l | apply q0b) | exact HB.out)) hb); clear hb)
   go_ret
   exact ⟨⟨_, rfl, by simp⟩, a3.out⟩
  obtain rfl : q = n := by omega
  have ha := HA.out
  rw [List.drop_eq_nil_of_le (by rw [HN.out]; omega), List.any_nil] at ha
  subst ha
  clear HA
  go_wp2
  go_ret
  exact ⟨⟨_, rfl, by simp⟩, HB.out⟩
theorem tok_calls (g : Nat) (a0 : Int) (A0 : Option Addr) (c0 : Nat) (l0 : List S51) (w : World) (a1 : Kd.C k51 w A0 l0.length l0) (hl : l0.length ≤ 1000000) (hg : w.heap[g]? = some (.cells #[.int .i64 a0] 3 (0, 0))) :
  Calls Try.prog 61 #[.slice A0 l0.length c0, .func (.func 62) #[] #[.pointer (some ⟨g, 0, none⟩)]] w fun e w' => e = .returned (.bool (!noTok a0 l0)) ∧ Below w.heap.size w w' := by
 have K := am (tok_idx g a0 A0 c0 l0 w a1 hl hg)
 clear a1 hg
 unfold noTok
 rw [Bool.not_not]
 go_enter Try.func61, Try.ntmps61
 go_wp2_with (go_at_call 86; refine K.out.mono ?_; rintro e w1 ⟨⟨i, rfl, hi⟩, hb⟩; have HI := am hi; have a2 := am hb; clear hb hi)
 go_ret
 exact ⟨by rw [← HI.out]; rfl, a2.out⟩
end Go.Proofs.Ytabmkighhmchmaa
namespace Go.Proofs.Ytabmkighhmchmaa
open Go.RowKit Go.Shelf Go.YW.PrintWords Go.YW.PrintLast Go.YW.PrintMore Go.YW.Sq
open X (S49 S51 k49 k51 q0d q0a q1s q1j z51)
set_option linter.unusedVariables false
set_option linter.unusedSimpArgs false
attribute [local go_sem] Oper.semAt_some
def leasePost (ky nm : ByteArray) (A1 : Option Addr) (c1 : Nat) (ts : List S49) (A2 : Option Addr) (c2 : Nat) (xs : List S51) (w : World) (p : Int × Int × List S51 × Int) (e : Ending) (w' : World) : Prop :=
 ((p.1 = 0 ∧ ∃ v, e = .returned (.tuple #[.agg #[(.string ky), (.string nm), (.slice A1 ts.length c1), (.int .i64 p.2.1), v], .int .i64 p.2.2.2, .int .i64 0]) ∧ q1k w w' A2 c2 xs v p.2.2.1) ∨
  (p.1 ≠ 0 ∧ e = .returned (.tuple #[zeroRun, .int .i64 0, .int .i64 p.1]))) ∧ Below w.heap.size w w'
theorem q2y {P : Program} {fn : Func} {p p' p2 : Tmp} {ty ty' ty2 : TypeId} (h : fn.results = #[.cell p ty, .cell p' ty', .cell p2 ty2]) (tmps : Array Value) (w : World) (g g' g2 : Nat) (t : TypeId) (cs : Array Value) (fr : Nat × Nat) (d : TypeDesc) (v v2 : Value)
  (hp : tmps.getD p undef = .pointer (some ⟨g, 0, none⟩)) (hg : w.heap[g]? = some (.cells cs t fr))
  (hu : P.underlying ty = some d) (hd : (match d with | .struct _ | .array _ _ => true | _ => false) = true) (hi : (P.info? ty).map (·.size) = some cs.size)
  (a1 : tmps.getD p' undef = .pointer (some ⟨g', 0, none⟩)) (hl : (loadVar ty' ⟨g', 0, none⟩).run P w = .ok v w)
  (a2 : tmps.getD p2 undef = .pointer (some ⟨g2, 0, none⟩)) (a0 : (loadVar ty2 ⟨g2, 0, none⟩).run P w = .ok v2 w) :
  (results fn tmps).run P w = .ok (.tuple #[.agg cs, v, v2]) w := by
 have h1 : tmps[p]?.getD undef = .pointer (some ⟨g, 0, none⟩) := by simpa using hp
 have h2 : tmps[p']?.getD undef = .pointer (some ⟨g', 0, none⟩) := by simpa using a1
 have h3 : tmps[p2]?.getD undef = .pointer (some ⟨g2, 0, none⟩) := by simpa using a2
 simp [results, h, h1, h2, h3, asAddr, run_loadVar_row w g t ty cs fr d hg hu hd hi, hl, a0]
theorem load3 (w : World) (g : Nat) (v : Value) (h : w.cell? ⟨g, 0, none⟩ = some v) : (loadVar 3 ⟨g, 0, none⟩).run Try.prog w = .ok v w := by
 have hu := Try.underlying3
 simp [loadVar, hu, h, go_sem]
def notOk (k : Nat) (ts : List S49) (ys : List S51) (now a0 : Int) (x : Fin ys.length) : Prop := ∀ p, leaseO k (q0d ts (x.val : Int)) (q0a ys (x.val : Int)) now a0 = some p → p.2 ≠ 0
theorem leaseL_skip (k : Nat) (ts : List S49) (ys : List S51) (now a0 : Int) (hg : q4g k ts ys now a0 = true) : ∀ (a1 l : List (Fin ys.length)), (∀ y ∈ a1, notOk k ts ys now a0 y) → leaseL k ts ys now a0 (a1 ++ l) = leaseL k ts ys now a0 l
 | [], l, _ => rfl
 | x :: a1, l, h => by
  have ih := leaseL_skip k ts ys now a0 hg a1 l (fun y hy => h y (List.mem_cons_of_mem _ hy))
  obtain ⟨p, hp⟩ := Option.isSome_iff_exists.1 (List.all_eq_true.1 hg x (List.mem_finRange x))
  rw [List.cons_append, leaseL, hp, Option.bind_some, if_neg (h x (List.mem_cons_self ..) p hp), ih]
set_option maxHeartbeats 8000000 in
set_option maxRecDepth 100000 in
theorem lease_calls (k : Nat) (ky nm : ByteArray) (A1 : Option Addr) (c1 : Nat) (ts : List S49) (is : Int) (A2 : Option Addr) (c2 : Nat) (xs : List S51) (now a5 : Int) (r : Int × Int × List S51 × Int) (w : World) (hT : Kd.C k49 w A1 ts.length ts) (ht : ts.length ≤ c1) (hC : Kd.C k51 w A2 xs.length xs)
  (h : runLeaseO k ky nm ts is xs now a5 = some r) :
  Calls Try.prog 23 #[.agg #[(.string ky), (.string nm), (.slice A1 ts.length c1), (.int .i64 is), (.slice A2 xs.length c2)], .int .i64 now, .int .i64 a5] w fun e w' => leasePost ky nm A1 c1 ts A2 c2 xs w r e w' := by
 have u1 := Try.underlying27
 have t8 := Try.underlying24
 have u2 := Try.underlying49
 have u3 := Try.underlying51
 have t7 := Try.underlying22
 have t9 := Try.underlying25
 have HC := am hC
 have HT := am hT
 have n9 := am ht
 have HB := am (Below.refl w.heap.size w)
 obtain ⟨so, r6, h_⟩ := Option.bind_eq_some_iff.1 h
 have HO := am r6
 clear hT hC ht r6 h
 rcases so with _ | ⟨is', ys⟩
 ·
  obtain rfl := Option.some.inj h_
  clear h_
  go_enter Try.func23, Try.ntmps23
  go_wp2_with (first | ((with_reducible refine gD 3 ?_); refine bz 3 (#[(.string ky), (.string nm), (.slice A1 ts.length c1), (.int .i64 is), (.slice A2 xs.length c2)] : Array Value) 27 HB ?_; clear HB; intro g3 hg o6 hb B3 n1 HB; clear hb hg) | ((with_reducible refine gD 4 ?_); refine bz 4 (#[(.int .i64 now)] : Array Value) 3 HB ?_; clear HB; intro g4 hg o7 hb B4 n2 HB; have f5 := nP hg B3; have i5 := am f5.out.symm; replace B3 := kP B3 hb; clear hb hg) | ((with_reducible refine gD 5 ?_); refine bz 5 (#[(.int .i64 a5)] : Array Value) 3 HB ?_; clear HB; intro g5 hg o8 hb B5 n3 HB; have f6 := nP hg B3; have i6 := am f6.out.symm; have f7 := nP hg B4; have i7 := am f7.out.symm; replace B3 := kP B3 hb; replace B4 := kP B4 hb; clear hb hg) | ((with_reducible refine gD 6 ?_); refine bz 6 (#[(.string (⟨#[]⟩ : ByteArray)), (.string (⟨#[]⟩ : ByteArray)), (.slice none 0 0), (.int .i64 0), (.slice none 0 0)] : Array Value) 27 HB ?_; clear HB; intro g6 hg o9 hb B6 n4 HB; have d8 := nP hg B3; have i1 := am d8.out.symm; have f8 := nP hg B4; have i8 := am f8.out.symm; have g1 := nP hg B5; have i9 := am g1.out.symm; replace B3 := kP B3 hb; replace B4 := kP B4 hb; replace B5 := kP B5 hb; clear hb hg) | ((with_reducible refine gD 7 ?_); refine bz 7 (#[(.int .i64 0)] : Array Value) 3 HB ?_; clear HB; intro g7 hg p3 hb B7 n5 HB; have d9 := nP hg B3; have i2 := am d9.out.symm; have f9 := nP hg B4; have j0 := am f9.out.symm; have g2 := nP hg B5; have j1 := am g2.out.symm; have b6 := nP hg B6; have c8 := am b6.out.symm; replace B3 := kP B3 hb; replace B4 := kP B4 hb; replace B5 := kP B5 hb; replace B6 := kP B6 hb; clear hb hg) | ((with_reducible refine gD 8 ?_); refine bz 8 (#[(.int .i64 0)] : Array Value) 29 HB ?_; clear HB; intro g8 hg k9 hb B8 n6 HB; have e0 := nP hg B3; have i3 := am e0.out.symm; have g0 := nP hg B4; have j2 := am g0.out.symm; have g9 := nP hg B5; have j3 := am g9.out.symm; have b7 := nP hg B6; have d5 := am b7.out.symm; have b8 := nP hg B7; have d6 := am b8.out.symm; replace B3 := kP B3 hb; replace B4 := kP B4 hb; replace B5 := kP B5 hb; replace B6 := kP B6 hb; replace B7 := kP B7 hb; clear hb hg; obtain ⟨b0, b1, b2, b3, b4⟩ := ce5 B3.out; have k4 : k9.cell? ⟨g4, 0, none⟩ = some (.int .i64 now) := bc B4.out) | (go_at_call 14; refine (q3k k ky nm A1 c1 ts is A2 c2 xs now _ _ (Kd.C_below HT.out HB.out) n9.out (Kd.C_below HC.out HB.out) HO.out).mono ?_; rintro e w3 ⟨rfl, hb⟩; replace B3 := kP B3 hb; replace B4 := kP B4 hb; replace B5 := kP B5 hb; replace B6 := kP B6 hb; replace B7 := kP B7 hb; replace B8 := kP B8 hb; replace HB := bS HB hb; clear b0 b1 b2 b3 b4 k4 hb; obtain ⟨b0, b1, b2, b3, b4⟩ := ce5 B3.out; obtain ⟨m6, m7, m8, m9, j4⟩ := z5 B3.out; obtain ⟨d0, d1, d2, d3, d4⟩ := ce5 B6.out; obtain ⟨j5, j6, j7, j8, j9⟩ := z5 B6.out; have q0 := ce1 B7.out; have k1 := z1 B7.out; have u0 := ce1 B8.out; have k2 := z1 B8.out; have l6 := b6.out; have l8 := c8.out; have l7 := b7.out; have m0 := d5.out; have l9 := b8.out; have m1 := d6.out; have w6 := d8.out; have x8 := i1.out; have x5 := d9.out; have y6 := i2.out; have x6 := e0.out; have y8 := i3.out))
  refine bodyPost_ret (q2y rfl _ _ g6 g7 g8 27 (#[(.string (⟨#[]⟩ : ByteArray)), (.string (⟨#[]⟩ : ByteArray)), (.slice none 0 0), (.int .i64 0), (.slice none 0 0)] : Array Value) (0, 0) _ (.int .i64 0) (.int .i64 1) rfl (pP B6.out) Try.underlying27 rfl (by kernel_rfl) rfl (load3 _ _ _ ((q0i (pP (cs' := #[.int .i64 0]) B7.out) 0).trans rfl)) rfl (load29 _ _ _ ((q0i (pP (cs' := #[.int .i64 1]) B8.out) 0).trans rfl))) rfl ?_
  exact ⟨.inr ⟨by decide, rfl⟩, pB HB.out⟩
 have l0 := am (settleO_len HO.out)
 have a7 : (if a5 < 1 then (some (1, 0, [], 0) : Option (Int × Int × List S51 × Int)) else if 1099511627776 < a5 then some (1, 0, [], 0) else if noTok a5 ys = false then some (1, 0, [], 0) else if is' ≠ 0 then some (192, 0, [], 0) else if q4g k ts ys now a5 = false then none else (leaseL k ts ys now a5 (List.finRange ys.length)).bind fun o => match o with | none => some (192, 0, [], 0) | some (i, s) => some (0, is', ys.set i.val s, (i.val : Int))) = some r := h_
 clear h_
 by_cases hE : a5 < 1 ∨ 1099511627776 < a5 ∨ noTok a5 ys = false ∨ is' ≠ 0
 ·
  go_enter Try.func23, Try.ntmps23
  go_upto_region 2 with (first | ((with_reducible refine gD 3 ?_); refine bz 3 (#[(.string ky), (.string nm), (.slice A1 ts.length c1), (.int .i64 is), (.slice A2 xs.length c2)] : Array Value) 27 HB ?_; clear HB; intro g3 hg o6 hb B3 n1 HB; clear hb hg) | ((with_reducible refine gD 4 ?_); refine bz 4 (#[(.int .i64 now)] : Array Value) 3 HB ?_; clear HB; intro g4 hg o7 hb B4 n2 HB; have f5 := nP hg B3; have i5 := am f5.out.symm; replace B3 := kP B3 hb; clear hb hg) | ((with_reducible refine gD 5 ?_); refine bz 5 (#[(.int .i64 a5)] : Array Value) 3 HB ?_; clear HB; intro g5 hg o8 hb B5 n3 HB; have f6 := nP hg B3; have i6 := am f6.out.symm; have f7 := nP hg B4; have i7 := am f7.out.symm; replace B3 := kP B3 hb; replace B4 := kP B4 hb; clear hb hg) | ((with_reducible refine gD 6 ?_); refine bz 6 (#[(.string (⟨#[]⟩ : ByteArray)), (.string (⟨#[]⟩ : ByteArray)), (.slice none 0 0), (.int .i64 0), (.slice none 0 0)] : Array Value) 27 HB ?_; clear HB; intro g6 hg o9 hb B6 n4 HB; have d8 := nP hg B3; have i1 := am d8.out.symm; have f8 := nP hg B4; have i8 := am f8.out.symm; have g1 := nP hg B5; have i9 := am g1.out.symm; replace B3 := kP B3 hb; replace B4 := kP B4 hb; replace B5 := kP B5 hb; clear hb hg) | ((with_reducible refine gD 7 ?_); refine bz 7 (#[(.int .i64 0)] : Array Value) 3 HB ?_; clear HB; intro g7 hg p3 hb B7 n5 HB; have d9 := nP hg B3; have i2 := am d9.out.symm; have f9 := nP hg B4; have j0 := am f9.out.symm; have g2 := nP hg B5; have j1 := am g2.out.symm; have b6 := nP hg B6; have c8 := am b6.out.symm; replace B3 := kP B3 hb; replace B4 := kP B4 hb; replace B5 := kP B5 hb; replace B6 := kP B6 hb; clear hb hg) | ((with_reducible refine gD 8 ?_); refine bz 8 (#[(.int .i64 0)] : Array Value) 29 HB ?_; clear HB; intro g8 hg k9 hb B8 n6 HB; have e0 := nP hg B3; have i3 := am e0.out.symm; have g0 := nP hg B4; have j2 := am g0.out.symm; have g9 := nP hg B5; have j3 := am g9.out.symm; have b7 := nP hg B6; have d5 := am b7.out.symm; have b8 := nP hg B7; have d6 := am b8.out.symm; replace B3 := kP B3 hb; replace B4 := kP B4 hb; replace B5 := kP B5 hb; replace B6 := kP B6 hb; replace B7 := kP B7 hb; clear hb hg; obtain ⟨b0, b1, b2, b3, b4⟩ := ce5 B3.out; have k4 : k9.cell? ⟨g4, 0, none⟩ = some (.int .i64 now) := bc B4.out) | (go_at_call 14; refine (q3k k ky nm A1 c1 ts is A2 c2 xs now _ _ (Kd.C_below HT.out HB.out) n9.out (Kd.C_below HC.out HB.out) HO.out).mono ?_; rintro e w3 ⟨⟨v3, rfl, ho⟩, hb⟩; obtain ⟨A3, c3, e3⟩ := q1k.slice ho; (try dsimp only at e3); subst e3; have H3 := am (q1k.base ho (q0m HB.out)); replace B3 := kP B3 hb; replace B4 := kP B4 hb; replace B5 := kP B5 hb; replace B6 := kP B6 hb; replace B7 := kP B7 hb; replace B8 := kP B8 hb; replace HB := bS HB hb; clear b0 b1 b2 b3 b4 k4 hb; obtain ⟨b0, b1, b2, b3, b4⟩ := ce5 B3.out; obtain ⟨m6, m7, m8, m9, j4⟩ := z5 B3.out; clear ho))
  have X3 := am (show (((((w3.setCell ⟨g3, 0, none⟩ (.string ky)).setCell ⟨g3, 1, none⟩ (.string nm)).setCell ⟨g3, 2, none⟩ (.slice A1 ts.length c1)).setCell ⟨g3, 3, none⟩ (.int .i64 is')).setCell ⟨g3, 4, none⟩ (.slice A3 ys.length c3)).heap[g3]? = some (.cells (#[(.string ky), (.string nm), (.slice A1 ts.length c1), (.int .i64 is'), (.slice A3 ys.length c3)] : Array Value) 27 (0, 0)) from pP B3.out)
  have X4 := am (show (((((w3.setCell ⟨g3, 0, none⟩ (.string ky)).setCell ⟨g3, 1, none⟩ (.string nm)).setCell ⟨g3, 2, none⟩ (.slice A1 ts.length c1)).setCell ⟨g3, 3, none⟩ (.int .i64 is')).setCell ⟨g3, 4, none⟩ (.slice A3 ys.length c3)).heap[g4]? = some (.cells (#[(.int .i64 now)] : Array Value) 3 (0, 0)) from pP B4.out)
  have X5 := am (show (((((w3.setCell ⟨g3, 0, none⟩ (.string ky)).setCell ⟨g3, 1, none⟩ (.string nm)).setCell ⟨g3, 2, none⟩ (.slice A1 ts.length c1)).setCell ⟨g3, 3, none⟩ (.int .i64 is')).setCell ⟨g3, 4, none⟩ (.slice A3 ys.length c3)).heap[g5]? = some (.cells (#[(.int .i64 a5)] : Array Value) 3 (0, 0)) from pP B5.out)
  have X6 := am (show (((((w3.setCell ⟨g3, 0, none⟩ (.string ky)).setCell ⟨g3, 1, none⟩ (.string nm)).setCell ⟨g3, 2, none⟩ (.slice A1 ts.length c1)).setCell ⟨g3, 3, none⟩ (.int .i64 is')).setCell ⟨g3, 4, none⟩ (.slice A3 ys.length c3)).heap[g6]? = some (.cells (#[(.string (⟨#[]⟩ : ByteArray)), (.string (⟨#[]⟩ : ByteArray)), (.slice none 0 0), (.int .i64 0), (.slice none 0 0)] : Array Value) 27 (0, 0)) from pP B6.out)
  have X7 := am (show (((((w3.setCell ⟨g3, 0, none⟩ (.string ky)).setCell ⟨g3, 1, none⟩ (.string nm)).setCell ⟨g3, 2, none⟩ (.slice A1 ts.length c1)).setCell ⟨g3, 3, none⟩ (.int .i64 is')).setCell ⟨g3, 4, none⟩ (.slice A3 ys.length c3)).heap[g7]? = some (.cells (#[(.int .i64 0)] : Array Value) 3 (0, 0)) from pP B7.out)
  have X8 := am (show (((((w3.setCell ⟨g3, 0, none⟩ (.string ky)).setCell ⟨g3, 1, none⟩ (.string nm)).setCell ⟨g3, 2, none⟩ (.slice A1 ts.length c1)).setCell ⟨g3, 3, none⟩ (.int .i64 is')).setCell ⟨g3, 4, none⟩ (.slice A3 ys.length c3)).heap[g8]? = some (.cells (#[(.int .i64 0)] : Array Value) 29 (0, 0)) from pP B8.out)
  have XR := am (show q1k w (((((w3.setCell ⟨g3, 0, none⟩ (.string ky)).setCell ⟨g3, 1, none⟩ (.string nm)).setCell ⟨g3, 2, none⟩ (.slice A1 ts.length c1)).setCell ⟨g3, 3, none⟩ (.int .i64 is')).setCell ⟨g3, 4, none⟩ (.slice A3 ys.length c3)) A2 c2 xs (.slice A3 ys.length c3) ys from (q1k.set (q1k.set (q1k.set (q1k.set (q1k.set H3.out (pP (cs' := #[(.string ky), (.string nm), (.slice A1 ts.length c1), (.int .i64 is), (.slice A2 xs.length c2)]) B3.out) (by decide) _ _) (pP (cs' := #[(.string ky), (.string nm), (.slice A1 ts.length c1), (.int .i64 is), (.slice A2 xs.length c2)]) B3.out) (by decide) _ _) (pP (cs' := #[(.string ky), (.string nm), (.slice A1 ts.length c1), (.int .i64 is), (.slice A2 xs.length c2)]) B3.out) (by decide) _ _) (pP (cs' := #[(.string ky), (.string nm), (.slice A1 ts.length c1), (.int .i64 is), (.slice A2 xs.length c2)]) B3.out) (by decide) _ _) (pP (cs' := #[(.string ky), (.string nm), (.slice A1 ts.length c1), (.int .i64 is'), (.slice A2 xs.length c2)]) B3.out) (by decide) _ _))
  have XB := am (show Below w.heap.size w (((((w3.setCell ⟨g3, 0, none⟩ (.string ky)).setCell ⟨g3, 1, none⟩ (.string nm)).setCell ⟨g3, 2, none⟩ (.slice A1 ts.length c1)).setCell ⟨g3, 3, none⟩ (.int .i64 is')).setCell ⟨g3, 4, none⟩ (.slice A3 ys.length c3)) from pB HB.out)
  clear H3 HB B3 B4 B5 B6 B7 B8 b0 b1 b2 b3 b4 m6 m7 m8 m9 j4
  have B3 := X3
  have B4 := X4
  have B5 := X5
  have B6 := X6
  have B7 := X7
  have B8 := X8
  have H3 := XR
  have HB := XB
  clear XR XB X3 X4 X5 X6 X7 X8
  generalize (((((w3.setCell ⟨g3, 0, none⟩ (.string ky)).setCell ⟨g3, 1, none⟩ (.string nm)).setCell ⟨g3, 2, none⟩ (.slice A1 ts.length c1)).setCell ⟨g3, 3, none⟩ (.int .i64 is')).setCell ⟨g3, 4, none⟩ (.slice A3 ys.length c3)) = w4 at *
  obtain ⟨b0, b1, b2, b3, b4⟩ := ce5 B3.out
  have k5 : w4.cell? ⟨g5, 0, none⟩ = some (.int .i64 a5) := bc B5.out
  obtain ⟨d0, d1, d2, d3, d4⟩ := ce5 B6.out
  obtain ⟨j5, j6, j7, j8, j9⟩ := z5 B6.out
  have q0 := ce1 B7.out
  have k1 := z1 B7.out
  have u0 := ce1 B8.out
  have k2 := z1 B8.out
  have l6 := b6.out
  have l8 := c8.out
  have l7 := b7.out
  have m0 := d5.out
  have l9 := b8.out
  have m1 := d6.out
  by_cases h9 : a5 < 1
  ·
   rw [if_pos h9] at a7
   obtain rfl := Option.some.inj a7
   have E1 := decide_eq_true h9
   clear h9 a7 hE
   go_wp2
   refine bodyPost_ret (q2y rfl _ _ g6 g7 g8 27 (#[(.string (⟨#[]⟩ : ByteArray)), (.string (⟨#[]⟩ : ByteArray)), (.slice none 0 0), (.int .i64 0), (.slice none 0 0)] : Array Value) (0, 0) _ (.int .i64 0) (.int .i64 1) rfl (pP B6.out) Try.underlying27 rfl (by kernel_rfl) rfl (load3 _ _ _ ((q0i (pP (cs' := #[.int .i64 0]) B7.out) 0).trans rfl)) rfl (load29 _ _ _ ((q0i (pP (cs' := #[.int .i64 1]) B8.out) 0).trans rfl))) rfl ?_
   exact ⟨.inr ⟨by decide, rfl⟩, pB HB.out⟩
  rw [if_neg h9] at a7
  have E1 := decide_eq_false h9
  have s7 := am h9
  by_cases i4 : 1099511627776 < a5
  ·
   rw [if_pos i4] at a7
   obtain rfl := Option.some.inj a7
   have E2 := decide_eq_true i4
   have v6 : decide (a5 > 1099511627776) = true := E2
   clear h9 i4 a7 hE
   go_wp2
   refine bodyPost_ret (q2y rfl _ _ g6 g7 g8 27 (#[(.string (⟨#[]⟩ : ByteArray)), (.string (⟨#[]⟩ : ByteArray)), (.slice none 0 0), (.int .i64 0), (.slice none 0 0)] : Array Value) (0, 0) _ (.int .i64 0) (.int .i64 1) rfl (pP B6.out) Try.underlying27 rfl (by kernel_rfl) rfl (load3 _ _ _ ((q0i (pP (cs' := #[.int .i64 0]) B7.out) 0).trans rfl)) rfl (load29 _ _ _ ((q0i (pP (cs' := #[.int .i64 1]) B8.out) 0).trans rfl))) rfl ?_
   exact ⟨.inr ⟨by decide, rfl⟩, pB HB.out⟩
  rw [if_neg i4] at a7
  have E2 : decide (a5 > 1099511627776) = false := decide_eq_false i4
  have s8 := am i4
  by_cases hn : noTok a5 ys = false
  ·
   rw [if_pos hn] at a7
   obtain rfl := Option.some.inj a7
   have HN := am hn
   clear h9 i4 hn a7 hE
   go_wp2_with (go_at_call 61; refine (tok_calls g5 a5 A3 c3 ys _ (q1k.reads H3.out HC.out HB.out) (by have h_ := l0.out; (try dsimp only at h_); omega) B5.out).mono ?_; rintro e w5 ⟨rfl, hb⟩; rw [HN.out]; replace B3 := kP B3 hb; replace B4 := kP B4 hb; replace B5 := kP B5 hb; replace B6 := kP B6 hb; replace B7 := kP B7 hb; replace B8 := kP B8 hb; replace HB := bS HB hb; clear b0 b1 b2 b3 b4 k5 d0 d1 d2 d3 d4 j5 j6 j7 j8 j9 q0 k1 u0 k2 H3 l6 l8 l7 m0 l9 m1 hb; obtain ⟨d0, d1, d2, d3, d4⟩ := ce5 B6.out; obtain ⟨j5, j6, j7, j8, j9⟩ := z5 B6.out; have q0 := ce1 B7.out; have k1 := z1 B7.out; have u0 := ce1 B8.out; have k2 := z1 B8.out; have l6 := b6.out; have l8 := c8.out; have l7 := b7.out; have m0 := d5.out; have l9 := b8.out; have m1 := d6.out)
   refine bodyPost_ret (q2y rfl _ _ g6 g7 g8 27 (#[(.string (⟨#[]⟩ : ByteArray)), (.string (⟨#[]⟩ : ByteArray)), (.slice none 0 0), (.int .i64 0), (.slice none 0 0)] : Array Value) (0, 0) _ (.int .i64 0) (.int .i64 1) rfl (pP B6.out) Try.underlying27 rfl (by kernel_rfl) rfl (load3 _ _ _ ((q0i (pP (cs' := #[.int .i64 0]) B7.out) 0).trans rfl)) rfl (load29 _ _ _ ((q0i (pP (cs' := #[.int .i64 1]) B8.out) 0).trans rfl))) rfl ?_
   exact ⟨.inr ⟨by decide, rfl⟩, pB HB.out⟩
  rw [if_neg hn] at a7
  have HN : q0e (noTok a5 ys = true) := ⟨by simpa using hn⟩
  by_cases hi : is' ≠ 0
  ·
   rw [if_pos hi] at a7
   obtain rfl := Option.some.inj a7
   have E3 := beq_eq_false_iff_ne.2 hi
   clear h9 i4 hn hi a7 hE
   go_wp2_with (go_at_call 61; refine (tok_calls g5 a5 A3 c3 ys _ (q1k.reads H3.out HC.out HB.out) (by have h_ := l0.out; (try dsimp only at h_); omega) B5.out).mono ?_; rintro e w5 ⟨rfl, hb⟩; rw [HN.out]; replace B3 := kP B3 hb; replace B4 := kP B4 hb; replace B5 := kP B5 hb; replace B6 := kP B6 hb; replace B7 := kP B7 hb; replace B8 := kP B8 hb; replace HB := bS HB hb; clear b0 b1 b2 b3 b4 k5 d0 d1 d2 d3 d4 j5 j6 j7 j8 j9 q0 k1 u0 k2 H3 l6 l8 l7 m0 l9 m1 hb; obtain ⟨d0, d1, d2, d3, d4⟩ := ce5 B6.out; obtain ⟨j5, j6, j7, j8, j9⟩ := z5 B6.out; have q0 := ce1 B7.out; have k1 := z1 B7.out; have u0 := ce1 B8.out; have k2 := z1 B8.out; have l6 := b6.out; have l8 := c8.out; have l7 := b7.out; have m0 := d5.out; have l9 := b8.out; have m1 := d6.out; obtain ⟨b0, b1, b2, b3, b4⟩ := ce5 B3.out)
   refine bodyPost_ret (q2y rfl _ _ g6 g7 g8 27 (#[(.string (⟨#[]⟩ : ByteArray)), (.string (⟨#[]⟩ : ByteArray)), (.slice none 0 0), (.int .i64 0), (.slice none 0 0)] : Array Value) (0, 0) _ (.int .i64 0) (.int .i64 192) rfl (pP B6.out) Try.underlying27 rfl (by kernel_rfl) rfl (load3 _ _ _ ((q0i (pP (cs' := #[.int .i64 0]) B7.out) 0).trans rfl)) rfl (load29 _ _ _ ((q0i (pP (cs' := #[.int .i64 192]) B8.out) 0).trans rfl))) rfl ?_
   exact ⟨.inr ⟨by decide, rfl⟩, pB HB.out⟩
  exact absurd hE (by simp [h9, i4, hn, hi])
 have h9 : ¬ a5 < 1 := fun e => hE (.inl e)
 have i4 : ¬ 1099511627776 < a5 := fun e => hE (.inr (.inl e))
 have hn : ¬ noTok a5 ys = false := fun e => hE (.inr (.inr (.inl e)))
 have hi : ¬ is' ≠ 0 := fun e => hE (.inr (.inr (.inr e)))
 clear hE
 rw [if_neg h9] at a7
 have E1 := decide_eq_false h9
 have s7 := am h9
 clear h9
 rw [if_neg i4] at a7
 have E2 : decide (a5 > 1099511627776) = false := decide_eq_false i4
 have s8 := am i4
 clear i4
 rw [if_neg hn] at a7
 have HN : q0e (noTok a5 ys = true) := ⟨by simpa using hn⟩
 clear hn
 rw [if_neg hi] at a7
 obtain rfl : is' = 0 := by simpa using hi
 clear hi
 by_cases hg : q4g k ts ys now a5 = false
 ·
  rw [if_pos hg] at a7; cases a7
 rw [if_neg hg] at a7
 have HG : q0e (q4g k ts ys now a5 = true) := ⟨by simpa using hg⟩
 have p5 := am a7
 clear hg a7
 refine (callsIn_wide (n := 6)).1 ?_
 refine callsIn_of_wp_marks Try.func23 rfl trivial ?_ rfl
 simp only [Try.ntmps23, List.size_toArray, List.length_cons, List.length_nil, Nat.reduceAdd, Nat.reduceSub, Array.replicate_succ, Array.replicate_zero, List.push_toArray, List.append_toArray, List.nil_append, List.cons_append]
 have B3 := am (show ((w).alloc (.cells #[(.string ky), (.string nm), (.slice A1 ts.length c1), (.int .i64 is), (.slice A2 xs.length c2)] 27)).heap[w.heap.size]? = some (.cells (#[(.string ky), (.string nm), (.slice A1 ts.length c1), (.int .i64 is), (.slice A2 xs.length c2)] : Array Value) 27 (0, 0)) from (by have h_ := q1t w (.cells #[(.string ky), (.string nm), (.slice A1 ts.length c1), (.int .i64 is), (.slice A2 xs.length c2)] 27); exact h_))
 have X3 := am (q0h B3.out (.cells #[(.int .i64 now)] 3))
 clear B3
 have B3 := X3
 clear X3
 have B4 := am (show (((w).alloc (.cells #[(.string ky), (.string nm), (.slice A1 ts.length c1), (.int .i64 is), (.slice A2 xs.length c2)] 27)).alloc (.cells #[(.int .i64 now)] 3)).heap[w.heap.size + 1]? = some (.cells (#[(.int .i64 now)] : Array Value) 3 (0, 0)) from (by have h_ := q1t ((w).alloc (.cells #[(.string ky), (.string nm), (.slice A1 ts.length c1), (.int .i64 is), (.slice A2 xs.length c2)] 27)) (.cells #[(.int .i64 now)] 3); rwa [World.size_alloc] at h_))
 have X3 := am (q0h B3.out (.cells #[(.int .i64 a5)] 3))
 have X4 := am (q0h B4.out (.cells #[(.int .i64 a5)] 3))
 clear B3 B4
 have B3 := X3
 have B4 := X4
 clear X3 X4
 have B5 := am (show ((((w).alloc (.cells #[(.string ky), (.string nm), (.slice A1 ts.length c1), (.int .i64 is), (.slice A2 xs.length c2)] 27)).alloc (.cells #[(.int .i64 now)] 3)).alloc (.cells #[(.int .i64 a5)] 3)).heap[w.heap.size + 1 + 1]? = some (.cells (#[(.int .i64 a5)] : Array Value) 3 (0, 0)) from (by have h_ := q1t (((w).alloc (.cells #[(.string ky), (.string nm), (.slice A1 ts.length c1), (.int .i64 is), (.slice A2 xs.length c2)] 27)).alloc (.cells #[(.int .i64 now)] 3)) (.cells #[(.int .i64 a5)] 3); rwa [World.size_alloc, World.size_alloc] at h_))
 have X3 := am (q0h B3.out (.cells #[(.string (⟨#[]⟩ : ByteArray)), (.string (⟨#[]⟩ : ByteArray)), (.slice none 0 0), (.int .i64 0), (.slice none 0 0)] 27))
 have X4 := am (q0h B4.out (.cells #[(.string (⟨#[]⟩ : ByteArray)), (.string (⟨#[]⟩ : ByteArray)), (.slice none 0 0), (.int .i64 0), (.slice none 0 0)] 27))
 have X5 := am (q0h B5.out (.cells #[(.string (⟨#[]⟩ : ByteArray)), (.string (⟨#[]⟩ : ByteArray)), (.slice none 0 0), (.int .i64 0), (.slice none 0 0)] 27))
 clear B3 B4 B5
 have B3 := X3
 have B4 := X4
 have B5 := X5
 clear X3 X4 X5
 have B6 := am (show (((((w).alloc (.cells #[(.string ky), (.string nm), (.slice A1 ts.length c1), (.int .i64 is), (.slice A2 xs.length c2)] 27)).alloc (.cells #[(.int .i64 now)] 3)).alloc (.cells #[(.int .i64 a5)] 3)).alloc (.cells #[(.string (⟨#[]⟩ : ByteArray)), (.string (⟨#[]⟩ : ByteArray)), (.slice none 0 0), (.int .i64 0), (.slice none 0 0)] 27)).heap[w.heap.size + 1 + 1 + 1]? = some (.cells (#[(.string (⟨#[]⟩ : ByteArray)), (.string (⟨#[]⟩ : ByteArray)), (.slice none 0 0), (.int .i64 0), (.slice none 0 0)] : Array Value) 27 (0, 0)) from (by have h_ := q1t ((((w).alloc (.cells #[(.string ky), (.string nm), (.slice A1 ts.length c1), (.int .i64 is), (.slice A2 xs.length c2)] 27)).alloc (.cells #[(.int .i64 now)] 3)).alloc (.cells #[(.int .i64 a5)] 3)) (.cells #[(.string (⟨#[]⟩ : ByteArray)), (.string (⟨#[]⟩ : ByteArray)), (.slice none 0 0), (.int .i64 0), (.slice none 0 0)] 27); rwa [World.size_alloc, World.size_alloc, World.size_alloc] at h_))
 have X3 := am (q0h B3.out (.cells #[(.int .i64 0)] 3))
 have X4 := am (q0h B4.out (.cells #[(.int .i64 0)] 3))
 have X5 := am (q0h B5.out (.cells #[(.int .i64 0)] 3))
 have X6 := am (q0h B6.out (.cells #[(.int .i64 0)] 3))
 clear B3 B4 B5 B6
 have B3 := X3
 have B4 := X4
 have B5 := X5
 have B6 := X6
 clear X3 X4 X5 X6
 have B7 := am (show ((((((w).alloc (.cells #[(.string ky), (.string nm), (.slice A1 ts.length c1), (.int .i64 is), (.slice A2 xs.length c2)] 27)).alloc (.cells #[(.int .i64 now)] 3)).alloc (.cells #[(.int .i64 a5)] 3)).alloc (.cells #[(.string (⟨#[]⟩ : ByteArray)), (.string (⟨#[]⟩ : ByteArray)), (.slice none 0 0), (.int .i64 0), (.slice none 0 0)] 27)).alloc (.cells #[(.int .i64 0)] 3)).heap[w.heap.size + 1 + 1 + 1 + 1]? = some (.cells (#[(.int .i64 0)] : Array Value) 3 (0, 0)) from (by have h_ := q1t (((((w).alloc (.cells #[(.string ky), (.string nm), (.slice A1 ts.length c1), (.int .i64 is), (.slice A2 xs.length c2)] 27)).alloc (.cells #[(.int .i64 now)] 3)).alloc (.cells #[(.int .i64 a5)] 3)).alloc (.cells #[(.string (⟨#[]⟩ : ByteArray)), (.string (⟨#[]⟩ : ByteArray)), (.slice none 0 0), (.int .i64 0), (.slice none 0 0)] 27)) (.cells #[(.int .i64 0)] 3); rwa [World.size_alloc, World.size_alloc, World.size_alloc, World.size_alloc] at h_))
 have X3 := am (q0h B3.out (.cells #[(.int .i64 0)] 29))
 have X4 := am (q0h B4.out (.cells #[(.int .i64 0)] 29))
 have X5 := am (q0h B5.out (.cells #[(.int .i64 0)] 29))
 have X6 := am (q0h B6.out (.cells #[(.int .i64 0)] 29))
 have X7 := am (q0h B7.out (.cells #[(.int .i64 0)] 29))
 clear B3 B4 B5 B6 B7
 have B3 := X3
 have B4 := X4
 have B5 := X5
 have B6 := X6
 have B7 := X7
 clear X3 X4 X5 X6 X7
 have B8 := am (show (((((((w).alloc (.cells #[(.string ky), (.string nm), (.slice A1 ts.length c1), (.int .i64 is), (.slice A2 xs.length c2)] 27)).alloc (.cells #[(.int .i64 now)] 3)).alloc (.cells #[(.int .i64 a5)] 3)).alloc (.cells #[(.string (⟨#[]⟩ : ByteArray)), (.string (⟨#[]⟩ : ByteArray)), (.slice none 0 0), (.int .i64 0), (.slice none 0 0)] 27)).alloc (.cells #[(.int .i64 0)] 3)).alloc (.cells #[(.int .i64 0)] 29)).heap[w.heap.size + 1 + 1 + 1 + 1 + 1]? = some (.cells (#[(.int .i64 0)] : Array Value) 29 (0, 0)) from (by have h_ := q1t ((((((w).alloc (.cells #[(.string ky), (.string nm), (.slice A1 ts.length c1), (.int .i64 is), (.slice A2 xs.length c2)] 27)).alloc (.cells #[(.int .i64 now)] 3)).alloc (.cells #[(.int .i64 a5)] 3)).alloc (.cells #[(.string (⟨#[]⟩ : ByteArray)), (.string (⟨#[]⟩ : ByteArray)), (.slice none 0 0), (.int .i64 0), (.slice none 0 0)] 27)).alloc (.cells #[(.int .i64 0)] 3)) (.cells #[(.int .i64 0)] 29); rwa [World.size_alloc, World.size_alloc, World.size_alloc, World.size_alloc, World.size_alloc] at h_))
 have XB := am (show Below w.heap.size w (((((((w).alloc (.cells #[(.string ky), (.string nm), (.slice A1 ts.length c1), (.int .i64 is), (.slice A2 xs.length c2)] 27)).alloc (.cells #[(.int .i64 now)] 3)).alloc (.cells #[(.int .i64 a5)] 3)).alloc (.cells #[(.string (⟨#[]⟩ : ByteArray)), (.string (⟨#[]⟩ : ByteArray)), (.slice none 0 0), (.int .i64 0), (.slice none 0 0)] 27)).alloc (.cells #[(.int .i64 0)] 3)).alloc (.cells #[(.int .i64 0)] 29)) from (q0f (q0f (q0f (q0f (q0f (q0f (Below.refl _ w) _) _) _) _) _) _))
 clear HB
 have HB := XB
 clear XB
 gi_wp2_with (first | (refine ⟨trivial, ?_⟩; gi_at_call 14; refine (callsIn_wide.2 (q3k k ky nm A1 c1 ts is A2 c2 xs now _ _ (Kd.C_below HT.out HB.out) n9.out (Kd.C_below HC.out HB.out) HO.out)).mono ?_; rintro e w3 ⟨⟨v3, rfl, ho⟩, hb⟩; obtain ⟨A3, c3, e3⟩ := q1k.slice ho; (try dsimp only at e3); subst e3; have H3 := am (q1k.base ho (q0m HB.out)); have X3 := am (q0c B3.out hb); have X4 := am (q0c B4.out hb); have X5 := am (q0c B5.out hb); have X6 := am (q0c B6.out hb); have X7 := am (q0c B7.out hb); have X8 := am (q0c B8.out hb); have XB := am (q0k HB.out hb); have s5 := am (show w.heap.size + 6 ≤ w3.heap.size by have := hb.size; simp at this; omega); clear HB B3 B4 B5 B6 B7 B8; have B3 := X3; have B4 := X4; have B5 := X5; have B6 := X6; have B7 := X7; have B8 := X8; have HB := XB; clear XB hb ho X3 X4 X5 X6 X7 X8; obtain ⟨b0, b1, b2, b3, b4⟩ := ce5 B3.out; obtain ⟨m6, m7, m8, m9, j4⟩ := z5 B3.out; have k5 : w3.cell? ⟨w.heap.size + 1 + 1, 0, none⟩ = some (.int .i64 a5) := bc B5.out) | (refine ⟨trivial, ?_⟩; gi_at_call 61; have X3 := am (show (((((w3.setCell ⟨w.heap.size, 0, none⟩ (.string ky)).setCell ⟨w.heap.size, 1, none⟩ (.string nm)).setCell ⟨w.heap.size, 2, none⟩ (.slice A1 ts.length c1)).setCell ⟨w.heap.size, 3, none⟩ (.int .i64 0)).setCell ⟨w.heap.size, 4, none⟩ (.slice A3 ys.length c3)).heap[w.heap.size]? = some (.cells (#[(.string ky), (.string nm), (.slice A1 ts.length c1), (.int .i64 0), (.slice A3 ys.length c3)] : Array Value) 27 (0, 0)) from (q0q (cs := #[(.string ky), (.string nm), (.slice A1 ts.length c1), (.int .i64 0), (.slice A2 xs.length c2)]) (cs' := #[(.string ky), (.string nm), (.slice A1 ts.length c1), (.int .i64 0), (.slice A3 ys.length c3)]) (q0q (cs := #[(.string ky), (.string nm), (.slice A1 ts.length c1), (.int .i64 is), (.slice A2 xs.length c2)]) (cs' := #[(.string ky), (.string nm), (.slice A1 ts.length c1), (.int .i64 0), (.slice A2 xs.length c2)]) (q0q (cs := #[(.string ky), (.string nm), (.slice A1 ts.length c1), (.int .i64 is), (.slice A2 xs.length c2)]) (cs' := #[(.string ky), (.string nm), (.slice A1 ts.length c1), (.int .i64 is), (.slice A2 xs.length c2)]) (q0q (cs := #[(.string ky), (.string nm), (.slice A1 ts.length c1), (.int .i64 is), (.slice A2 xs.length c2)]) (cs' := #[(.string ky), (.string nm), (.slice A1 ts.length c1), (.int .i64 is), (.slice A2 xs.length c2)]) (q0q (cs := #[(.string ky), (.string nm), (.slice A1 ts.length c1), (.int .i64 is), (.slice A2 xs.length c2)]) (cs' := #[(.string ky), (.string nm), (.slice A1 ts.length c1), (.int .i64 is), (.slice A2 xs.length c2)]) B3.out 0 _ rfl) 1 _ rfl) 2 _ rfl) 3 _ rfl) 4 _ rfl)); have X4 := am (show (((((w3.setCell ⟨w.heap.size, 0, none⟩ (.string ky)).setCell ⟨w.heap.size, 1, none⟩ (.string nm)).setCell ⟨w.heap.size, 2, none⟩ (.slice A1 ts.length c1)).setCell ⟨w.heap.size, 3, none⟩ (.int .i64 0)).setCell ⟨w.heap.size, 4, none⟩ (.slice A3 ys.length c3)).heap[w.heap.size + 1]? = some (.cells (#[(.int .i64 now)] : Array Value) 3 (0, 0)) from (q0n (q0n (q0n (q0n (q0n B4.out (by show w.heap.size + 1 ≠ w.heap.size; omega) _) (by show w.heap.size + 1 ≠ w.heap.size; omega) _) (by show w.heap.size + 1 ≠ w.heap.size; omega) _) (by show w.heap.size + 1 ≠ w.heap.size; omega) _) (by show w.heap.size + 1 ≠ w.heap.size; omega) _)); have X5 := am (show (((((w3.setCell ⟨w.heap.size, 0, none⟩ (.string ky)).setCell ⟨w.heap.size, 1, none⟩ (.string nm)).setCell ⟨w.heap.size, 2, none⟩ (.slice A1 ts.length c1)).setCell ⟨w.heap.size, 3, none⟩ (.int .i64 0)).setCell ⟨w.heap.size, 4, none⟩ (.slice A3 ys.length c3)).heap[w.heap.size + 1 + 1]? = some (.cells (#[(.int .i64 a5)] : Array Value) 3 (0, 0)) from (q0n (q0n (q0n (q0n (q0n B5.out (by show w.heap.size + 1 + 1 ≠ w.heap.size; omega) _) (by show w.heap.size + 1 + 1 ≠ w.heap.size; omega) _) (by show w.heap.size + 1 + 1 ≠ w.heap.size; omega) _) (by show w.heap.size + 1 + 1 ≠ w.heap.size; omega) _) (by show w.heap.size + 1 + 1 ≠ w.heap.size; omega) _)); have X6 := am (show (((((w3.setCell ⟨w.heap.size, 0, none⟩ (.string ky)).setCell ⟨w.heap.size, 1, none⟩ (.string nm)).setCell ⟨w.heap.size, 2, none⟩ (.slice A1 ts.length c1)).setCell ⟨w.heap.size, 3, none⟩ (.int .i64 0)).setCell ⟨w.heap.size, 4, none⟩ (.slice A3 ys.length c3)).heap[w.heap.size + 1 + 1 + 1]? = some (.cells (#[(.string (⟨#[]⟩ : ByteArray)), (.string (⟨#[]⟩ : ByteArray)), (.slice none 0 0), (.int .i64 0), (.slice none 0 0)] : Array Value) 27 (0, 0)) from (q0n (q0n (q0n (q0n (q0n B6.out (by show w.heap.size + 1 + 1 + 1 ≠ w.heap.size; omega) _) (by show w.heap.size + 1 + 1 + 1 ≠ w.heap.size; omega) _) (by show w.heap.size + 1 + 1 + 1 ≠ w.heap.size; omega) _) (by show w.heap.size + 1 + 1 + 1 ≠ w.heap.size; omega) _) (by show w.heap.size + 1 + 1 + 1 ≠ w.heap.size; omega) _)); have X7 := am (show (((((w3.setCell ⟨w.heap.size, 0, none⟩ (.string ky)).setCell ⟨w.heap.size, 1, none⟩ (.string nm)).setCell ⟨w.heap.size, 2, none⟩ (.slice A1 ts.length c1)).setCell ⟨w.heap.size, 3, none⟩ (.int .i64 0)).setCell ⟨w.heap.size, 4, none⟩ (.slice A3 ys.length c3)).heap[w.heap.size + 1 + 1 + 1 + 1]? = some (.cells (#[(.int .i64 0)] : Array Value) 3 (0, 0)) from (q0n (q0n (q0n (q0n (q0n B7.out (by show w.heap.size + 1 + 1 + 1 + 1 ≠ w.heap.size; omega) _) (by show w.heap.size + 1 + 1 + 1 + 1 ≠ w.heap.size; omega) _) (by show w.heap.size + 1 + 1 + 1 + 1 ≠ w.heap.size; omega) _) (by show w.heap.size + 1 + 1 + 1 + 1 ≠ w.heap.size; omega) _) (by show w.heap.size + 1 + 1 + 1 + 1 ≠ w.heap.size; omega) _)); have X8 := am (show (((((w3.setCell ⟨w.heap.size, 0, none⟩ (.string ky)).setCell ⟨w.heap.size, 1, none⟩ (.string nm)).setCell ⟨w.heap.size, 2, none⟩ (.slice A1 ts.length c1)).setCell ⟨w.heap.size, 3, none⟩ (.int .i64 0)).setCell ⟨w.heap.size, 4, none⟩ (.slice A3 ys.length c3)).heap[w.heap.size + 1 + 1 + 1 + 1 + 1]? = some (.cells (#[(.int .i64 0)] : Array Value) 29 (0, 0)) from (q0n (q0n (q0n (q0n (q0n B8.out (by show w.heap.size + 1 + 1 + 1 + 1 + 1 ≠ w.heap.size; omega) _) (by show w.heap.size + 1 + 1 + 1 + 1 + 1 ≠ w.heap.size; omega) _) (by show w.heap.size + 1 + 1 + 1 + 1 + 1 ≠ w.heap.size; omega) _) (by show w.heap.size + 1 + 1 + 1 + 1 + 1 ≠ w.heap.size; omega) _) (by show w.heap.size + 1 + 1 + 1 + 1 + 1 ≠ w.heap.size; omega) _)); have XR := am (show q1k w (((((w3.setCell ⟨w.heap.size, 0, none⟩ (.string ky)).setCell ⟨w.heap.size, 1, none⟩ (.string nm)).setCell ⟨w.heap.size, 2, none⟩ (.slice A1 ts.length c1)).setCell ⟨w.heap.size, 3, none⟩ (.int .i64 0)).setCell ⟨w.heap.size, 4, none⟩ (.slice A3 ys.length c3)) A2 c2 xs (.slice A3 ys.length c3) ys from (q1k.set (q1k.set (q1k.set (q1k.set (q1k.set H3.out B3.out (by decide) _ _) (q0q (cs := #[(.string ky), (.string nm), (.slice A1 ts.length c1), (.int .i64 is), (.slice A2 xs.length c2)]) (cs' := #[(.string ky), (.string nm), (.slice A1 ts.length c1), (.int .i64 is), (.slice A2 xs.length c2)]) B3.out 0 _ rfl) (by decide) _ _) (q0q (cs := #[(.string ky), (.string nm), (.slice A1 ts.length c1), (.int .i64 is), (.slice A2 xs.length c2)]) (cs' := #[(.string ky), (.string nm), (.slice A1 ts.length c1), (.int .i64 is), (.slice A2 xs.length c2)]) (q0q (cs := #[(.string ky), (.string nm), (.slice A1 ts.length c1), (.int .i64 is), (.slice A2 xs.length c2)]) (cs' := #[(.string ky), (.string nm), (.slice A1 ts.length c1), (.int .i64 is), (.slice A2 xs.length c2)]) B3.out 0 _ rfl) 1 _ rfl) (by decide) _ _) (q0q (cs := #[(.string ky), (.string nm), (.slice A1 ts.length c1), (.int .i64 is), (.slice A2 xs.length c2)]) (cs' := #[(.string ky), (.string nm), (.slice A1 ts.length c1), (.int .i64 is), (.slice A2 xs.length c2)]) (q0q (cs := #[(.string ky), (.string nm), (.slice A1 ts.length c1), (.int .i64 is), (.slice A2 xs.length c2)]) (cs' := #[(.string ky), (.string nm), (.slice A1 ts.length c1), (.int .i64 is), (.slice A2 xs.length c2)]) (q0q (cs := #[(.string ky), (.string nm), (.slice A1 ts.length c1), (.int .i64 is), (.slice A2 xs.length c2)]) (cs' := #[(.string ky), (.string nm), (.slice A1 ts.length c1), (.int .i64 is), (.slice A2 xs.length c2)]) B3.out 0 _ rfl) 1 _ rfl) 2 _ rfl) (by decide) _ _) (q0q (cs := #[(.string ky), (.string nm), (.slice A1 ts.length c1), (.int .i64 is), (.slice A2 xs.length c2)]) (cs' := #[(.string ky), (.string nm), (.slice A1 ts.length c1), (.int .i64 0), (.slice A2 xs.length c2)]) (q0q (cs := #[(.string ky), (.string nm), (.slice A1 ts.length c1), (.int .i64 is), (.slice A2 xs.length c2)]) (cs' := #[(.string ky), (.string nm), (.slice A1 ts.length c1), (.int .i64 is), (.slice A2 xs.length c2)]) (q0q (cs := #[(.string ky), (.string nm), (.slice A1 ts.length c1), (.int .i64 is), (.slice A2 xs.length c2)]) (cs' := #[(.string ky), (.string nm), (.slice A1 ts.length c1), (.int .i64 is), (.slice A2 xs.length c2)]) (q0q (cs := #[(.string ky), (.string nm), (.slice A1 ts.length c1), (.int .i64 is), (.slice A2 xs.length c2)]) (cs' := #[(.string ky), (.string nm), (.slice A1 ts.length c1), (.int .i64 is), (.slice A2 xs.length c2)]) B3.out 0 _ rfl) 1 _ rfl) 2 _ rfl) 3 _ rfl) (by decide) _ _)); have XB := am (show Below w.heap.size w (((((w3.setCell ⟨w.heap.size, 0, none⟩ (.string ky)).setCell ⟨w.heap.size, 1, none⟩ (.string nm)).setCell ⟨w.heap.size, 2, none⟩ (.slice A1 ts.length c1)).setCell ⟨w.heap.size, 3, none⟩ (.int .i64 0)).setCell ⟨w.heap.size, 4, none⟩ (.slice A3 ys.length c3)) from (q0o (q0o (q0o (q0o (q0o HB.out (Nat.le_refl _)) (Nat.le_refl _)) (Nat.le_refl _)) (Nat.le_refl _)) (Nat.le_refl _))); refine (callsIn_wide.2 (tok_calls (w.heap.size + 1 + 1) a5 A3 c3 ys _ (q1k.reads XR.out HC.out XB.out) (by have h_ := l0.out; (try dsimp only at h_); omega) X5.out)).mono ?_; rintro e w4 ⟨rfl, hb⟩; rw [HN.out]; have Y3 := am (q0c X3.out hb); have Y4 := am (q0c X4.out hb); have Y5 := am (q0c X5.out hb); have Y6 := am (q0c X6.out hb); have Y7 := am (q0c X7.out hb); have Y8 := am (q0c X8.out hb); have YR := am (q1k.below XR.out hb); have YB := am (q0k XB.out hb); have s6 := am (show w.heap.size + 6 ≤ w4.heap.size by have b9 := hb.size; have a7 := s5.out; simp at b9; omega); clear HB H3 XR XB hb k5 B3 X3 B4 X4 B5 X5 B6 X6 B7 X7 B8 X8 b0 b1 b2 b3 b4 m6 m7 m8 m9 j4; have B3 := Y3; have B4 := Y4; have B5 := Y5; have B6 := Y6; have B7 := Y7; have B8 := Y8; have H3 := YR; have HB := YB; clear YR YB Y3 Y4 Y5 Y6 Y7 Y8; obtain ⟨b0, b1, b2, b3, b4⟩ := ce5 B3.out) | (refine ⟨trivial, ?_⟩; gi_at_call 43; refine (callsIn_wide.2 (each_calls ky nm A1 ts.length c1 0 A3 ys.length c3 _)).mono ?_; rintro e w5 ⟨gb, rfl, hg, l4, hb⟩; have s3 := am l4; have YR := am (q1k.below H3.out hb); have YB := am (q0k HB.out hb); have HS := am (show w.heap.size + 6 ≤ w5.heap.size by have b9 := hb.size; have a7 := s6.out; omega); have Y3 := am (q0c B3.out hb); have Y4 := am (q0c B4.out hb); have Y5 := am (q0c B5.out hb); have Y6 := am (q0c B6.out hb); have Y7 := am (q0c B7.out hb); have Y8 := am (q0c B8.out hb); clear HB H3 hg l4 hb B3 B4 B5 B6 B7 B8 b0 b1 b2 b3 b4; have B3 := Y3; have B4 := Y4; have B5 := Y5; have B6 := Y6; have B7 := Y7; have B8 := Y8; have HB := YB; have H3 := YR; clear YB YR Y3 Y4 Y5 Y6 Y7 Y8))
 refine wpIn_rangeFunc_ownH (w0 := w5) rfl (by omega) (gf := 78) (lb := #[.pointer (some ⟨gb, 0, none⟩)]) rfl trivial (enters_of Try.func78 (by kernel_rfl) rfl)
  (eachF_stops 5 (by omega) gb ky nm A1 ts.length c1 0 A3 c3 ys w5 w5 (q1k.reads H3.out HC.out HB.out) (by have h_ := l0.out; (try dsimp only at h_); omega) (Below.refl _ _) s3.out) belowK_t (belowK_b (Nat.le_refl _)) (Below.refl _ _) (fun _ => rfl)
  (fun k8 W => ((W.heap[w.heap.size]? = some (.cells (#[(.string ky), (.string nm), (.slice A1 ts.length c1), (.int .i64 0), (.slice A3 ys.length c3)] : Array Value) 27 (0, 0))) ∧ (W.heap[w.heap.size + 1]? = some (.cells (#[(.int .i64 now)] : Array Value) 3 (0, 0))) ∧ (W.heap[w.heap.size + 1 + 1]? = some (.cells (#[(.int .i64 a5)] : Array Value) 3 (0, 0))) ∧ (W.heap[w.heap.size + 1 + 1 + 1]? = some (.cells (#[(.string (⟨#[]⟩ : ByteArray)), (.string (⟨#[]⟩ : ByteArray)), (.slice none 0 0), (.int .i64 0), (.slice none 0 0)] : Array Value) 27 (0, 0))) ∧ (W.heap[w.heap.size + 1 + 1 + 1 + 1]? = some (.cells (#[(.int .i64 0)] : Array Value) 3 (0, 0))) ∧ (W.heap[w.heap.size + 1 + 1 + 1 + 1 + 1]? = some (.cells (#[(.int .i64 0)] : Array Value) 29 (0, 0)))) ∧ (Below w.heap.size w W ∧ (Below w5.heap.size w5 W ∧ ∀ y ∈ k8, notOk k ts ys now a5 y)))
  (fun c k8 W => ∃ i0 x p, k8 = i0 ++ [x] ∧ (∀ y ∈ i0, notOk k ts ys now a5 y) ∧ leaseO k (q0d ts (x.val : Int)) (q0a ys (x.val : Int)) now a5 = some p ∧ p.2 = 0 ∧ c = .ret ∧ Below w.heap.size w W ∧ ∃ A c, W.heap[w.heap.size + 1 + 1 + 1]? = some (.cells (#[(.string ky), (.string nm), (.slice A1 ts.length c1), (.int .i64 0), (.slice A ys.length c)] : Array Value) 27 (0, 0)) ∧ W.heap[w.heap.size + 1 + 1 + 1 + 1]? = some (.cells (#[(.int .i64 ((x.val : Nat) : Int))] : Array Value) 3 (0, 0)) ∧ W.heap[w.heap.size + 1 + 1 + 1 + 1 + 1]? = some (.cells (#[(.int .i64 0)] : Array Value) 29 (0, 0)) ∧ Kd.R k51 51 W w.heap.size (fun _ => True) (.slice A ys.length c) (ys.set x.val p.1))
  (OwnFrom.and (Own.from (fun s A B o5 hs hg hr => ⟨q1l hs.1 hg hr, q1l hs.2.1 hg hr, q1l hs.2.2.1 hg hr, q1l hs.2.2.2.1 hg hr, q1l hs.2.2.2.2.1 hg hr, q1l hs.2.2.2.2.2 hg hr⟩) _) (OwnFrom.and (ownFrom_below (Nat.le_refl _) (by have := HS.out; omega)) (OwnFrom.and (ownFrom_below (Nat.le_refl _) (Nat.le_refl _)) (fun _ _ _ _ hs _ _ => hs))))
  (fun c => fun s A B o5 hs hg hr => by
   obtain ⟨i0, x, p, e1, e2, e3, e4, e5, e6, Aq, cq, h3, h4, h5, h6⟩ := hs
   have n0 := fun r e => (hr r e).2
   exact ⟨i0, x, p, e1, e2, e3, e4, e5, (ownFrom_below (β := Unit) (Nat.le_refl _) (by have := HS.out; omega)) () A B o5 e6 hg hr, Aq, cq, q1l h3 hg n0, q1l h4 hg n0, q1l h5 hg n0, own_R h6 hg n0⟩)
  ⟨⟨B3.out, B4.out, B5.out, B6.out, B7.out, B8.out⟩, HB.out, Below.refl _ _, fun y hy => by cases hy⟩
  (fun x a' W => ∃ Bx, w5.heap.size ≤ Bx ∧ W.heap[Bx]? = some (.cells #[.int .i64 (q0a ys (x.val : Int)).f0, .int .i64 (q0a ys (x.val : Int)).f1, .int .i64 (q0a ys (x.val : Int)).f2, .int .i64 (q0a ys (x.val : Int)).f3, .string (q0a ys (x.val : Int)).f4] 51 (0, 0)) ∧ a' = { tmps := #[.agg #[(.string ky), (.string nm), (.slice A1 ts.length c1), (.int .i64 is), (.slice A2 xs.length c2)], .int .i64 now, .int .i64 a5, .pointer (some ⟨w.heap.size, 0, none⟩), .pointer (some ⟨w.heap.size + 1, 0, none⟩), .pointer (some ⟨w.heap.size + 1 + 1, 0, none⟩), .pointer (some ⟨w.heap.size + 1 + 1 + 1, 0, none⟩), .pointer (some ⟨w.heap.size + 1 + 1 + 1 + 1, 0, none⟩), .pointer (some ⟨w.heap.size + 1 + 1 + 1 + 1 + 1, 0, none⟩), .int .i64 0, .int .i64 ((x.val : Nat) : Int), .pointer (some ⟨Bx, 0, none⟩), undef, undef, .tuple #[.agg #[(.string ky), (.string nm), (.slice A1 ts.length c1), (.int .i64 0), (.slice A3 ys.length c3)], .int .i64 0], .agg #[(.string ky), (.string nm), (.slice A1 ts.length c1), (.int .i64 is), (.slice A2 xs.length c2)], .int .i64 now, .tuple #[.agg #[(.string ky), (.string nm), (.slice A1 ts.length c1), (.int .i64 0), (.slice A3 ys.length c3)], .int .i64 0], .agg #[(.string ky), (.string nm), (.slice A1 ts.length c1), (.int .i64 0), (.slice A3 ys.length c3)], .int .i64 0, .bool false, .int .i64 0, .bool false, undef, undef, .bool false, .int .i64 a5, .bool false, .bool false, .int .i64 a5, .bool false, .bool false, .bool false, .pointer (some ⟨w.heap.size, 4, none⟩), .slice A3 ys.length c3, .func (.func 62) #[] #[.pointer (some ⟨w.heap.size + 1 + 1, 0, none⟩)], .bool false, .bool false, undef, .bool false, .pointer (some ⟨w.heap.size, 3, none⟩), .int .i64 0, .bool false, undef, .agg #[(.string ky), (.string nm), (.slice A1 ts.length c1), (.int .i64 0), (.slice A3 ys.length c3)], .func (.func 78) #[] #[.pointer (some ⟨gb, 0, none⟩)], .int .i64 ((x.val : Nat) : Int), .agg #[.int .i64 (q0a ys (x.val : Int)).f0, .int .i64 (q0a ys (x.val : Int)).f1, .int .i64 (q0a ys (x.val : Int)).f2, .int .i64 (q0a ys (x.val : Int)).f3, .string (q0a ys (x.val : Int)).f4], undef, undef, undef, undef, undef, undef, undef, undef, undef, undef, undef, undef, undef, undef, undef, undef, undef, undef, undef, undef, undef, undef, undef, undef, undef, undef, undef], defers := [] })
  (fun x a' => Own.from (fun s A B o5 hs hg hr => by obtain ⟨Bx, h1, h2, h3⟩ := hs; exact ⟨Bx, h1, q1l h2 hg hr, h3⟩) _) ?assign ?body ?done ?stop
 case assign =>
  rintro l k8 x W K ⟨⟨h3, h4, h5, h6, h7, h8⟩, hB, k6, hN⟩ hK
  have Z3 := am h3
  have Z4 := am h4
  have Z5 := am h5
  have Z6 := am h6
  have Z7 := am h7
  have Z8 := am h8
  have h0 := am hB
  have a9 := am k6
  have m2 := am hN
  clear h3 h4 h5 h6 h7 h8 hB k6 hN
  dsimp only [encF]
  gi_wp2
  exact hK _ _ ((KeepsOthers.alloc _ _).from _) ((Below.refl _ W).alloc a9.out.size _) ⟨⟨q0h Z3.out _, q0h Z4.out _, q0h Z5.out _, q0h Z6.out _, q0h Z7.out _, q0h Z8.out _⟩, q0f h0.out _, q0f a9.out _, m2.out⟩ ⟨W.heap.size, a9.out.size, q1t _ _, rfl⟩
 case body =>
  rintro l k8 x a' W hl hr ⟨⟨h3, h4, h5, h6, h7, h8⟩, hB, k6, hN⟩ ⟨Bx, s9, bX, rfl⟩ t6
  have Z3 := am h3
  have Z4 := am h4
  have Z5 := am h5
  have Z6 := am h6
  have Z7 := am h7
  have Z8 := am h8
  have h0 := am hB
  have a9 := am k6
  have m2 := am hN
  have HX := am bX
  clear h3 h4 h5 h6 h7 h8 hB k6 hN bX hr hl t6 s9
  obtain ⟨p, hp⟩ := Option.isSome_iff_exists.1 (List.all_eq_true.1 HG.out x (List.mem_finRange x))
  have p6 := am hp
  have HP := am (leaseO_f hp)
  have HI := am x.isLt
  clear hp
  have p0 : (0 : Int) ≤ ((x.val : Nat) : Int) := by omega
  have p1 : ((x.val : Nat) : Int) < (ys.length : Int) := by have := HI.out; omega
  have p2 : ((x.val : Nat) : Int) < (ts.length : Int) := by have h_ := l0.out; have := HI.out; (try dsimp only at h_); omega
  obtain ⟨ad, A0, c0, eA, a0, a1, a2, a3, q9, q8⟩ := q1s (Kd.C_below HT.out h0.out) ((x.val : Nat) : Int) p0 p2
  rw [Int.toNat_natCast] at a0 a1 a2 a3
  have p9 := am q9
  have p8 := am q8
  clear q9 q8
  subst eA
  have x0 : W.cell? ⟨Bx, 0, none⟩ = some (.int .i64 (q0a ys (x.val : Int)).f0) := bc HX.out
  have x1 : W.cell? ⟨Bx, 1, none⟩ = some (.int .i64 (q0a ys (x.val : Int)).f1) := bc HX.out
  have x2 : W.cell? ⟨Bx, 2, none⟩ = some (.int .i64 (q0a ys (x.val : Int)).f2) := bc HX.out
  have x3 : W.cell? ⟨Bx, 3, none⟩ = some (.int .i64 (q0a ys (x.val : Int)).f3) := bc HX.out
  have x4 : W.cell? ⟨Bx, 4, none⟩ = some (.string (q0a ys (x.val : Int)).f4) := bc HX.out
  have k4 : W.cell? ⟨w.heap.size + 1, 0, none⟩ = some (.int .i64 now) := bc Z4.out
  have k5 : W.cell? ⟨w.heap.size + 1 + 1, 0, none⟩ = some (.int .i64 a5) := bc Z5.out
  have l2 : W.cell? ⟨w.heap.size, 2, none⟩ = some (.slice (some ad) ts.length c1) := bc Z3.out
  gi_wp2
  generalize r7 : q0a ys ((x.val : Nat) : Int) = s at *
  generalize r8 : q0d ts ((x.val : Nat) : Int) = t at *
  have p7 := am r7
  have q1 := am r8
  clear r7 r8
  have a4 := am (fun (W' : World) (hW : Below W.heap.size W W') (a : Addr) (v : Value) (h : W.cell? a = some v) => show W'.cell? a = some v from (hW.cell (World.block_lt_of_cell? W _ h)).trans h)
  refine q2b (n := 16) (S := fun w' => w'.cell? ⟨w.heap.size, 2, none⟩ = some (.slice (some ad) ts.length c1) ∧ w'.cell? (ad.add (x.val * 4)) = some (.slice A0 t.f0.length c0) ∧ w'.cell? ⟨(ad.add (x.val * 4)).block, (ad.add (x.val * 4)).off + 1, none⟩ = some (.int .i64 t.f1) ∧ w'.cell? ⟨(ad.add (x.val * 4)).block, (ad.add (x.val * 4)).off + 2, none⟩ = some (.int .i64 t.f2) ∧ w'.cell? ⟨(ad.add (x.val * 4)).block, (ad.add (x.val * 4)).off + 3, none⟩ = some (.int .i64 t.f3) ∧ w'.cell? ⟨Bx, 0, none⟩ = some (.int .i64 s.f0) ∧ w'.cell? ⟨Bx, 1, none⟩ = some (.int .i64 s.f1) ∧ w'.cell? ⟨Bx, 2, none⟩ = some (.int .i64 s.f2) ∧ w'.cell? ⟨Bx, 3, none⟩ = some (.int .i64 s.f3) ∧ w'.cell? ⟨Bx, 4, none⟩ = some (.string s.f4) ∧ w'.cell? ⟨w.heap.size + 1, 0, none⟩ = some (.int .i64 now) ∧ w'.cell? ⟨w.heap.size + 1 + 1, 0, none⟩ = some (.int .i64 a5)) (ds := [14]) (ba 16 0) (by kernel_rfl) rfl rfl ⟨(a4.out _ (q0b (Below.refl _ _)) _ _ l2), (a4.out _ (q0b (Below.refl _ _)) _ _ a0), (a4.out _ (q0b (Below.refl _ _)) _ _ a1), (a4.out _ (q0b (Below.refl _ _)) _ _ a2), (a4.out _ (q0b (Below.refl _ _)) _ _ a3), (a4.out _ (q0b (Below.refl _ _)) _ _ x0), (a4.out _ (q0b (Below.refl _ _)) _ _ x1), (a4.out _ (q0b (Below.refl _ _)) _ _ x2), (a4.out _ (q0b (Below.refl _ _)) _ _ x3), (a4.out _ (q0b (Below.refl _ _)) _ _ x4), (a4.out _ (q0b (Below.refl _ _)) _ _ k4), (a4.out _ (q0b (Below.refl _ _)) _ _ k5)⟩ ?_ (by kernel_rfl) (fun b5 => ?_)
  ·
   rintro ⟨_, _, h_⟩; exact h_
  refine ph 0 49 (ba 16 1) ?_
  refine ph 1 50 (ba 16 3) ?_
  refine ph 3 52 (ba 16 11) ?_
  refine th 2 51 (ba 16 15) b5 ?_
  refine ph 4 53 (ba 16 31) ?_
  refine th 5 54 (ba 16 63) b5 ?_
  refine th 6 55 (ba 16 127) b5 ?_
  refine th 7 56 (ba 16 255) b5 ?_
  refine th 8 57 (ba 16 511) b5 ?_
  refine join_ (σ := Nat) 2 (ba 16 16383) (fun s_ => [(58, .tuple #[.agg #[(.int .i64 p.1.f0), (.int .i64 p.1.f1), (.int .i64 p.1.f2), (.int .i64 p.1.f3), (.string p.1.f4)], .int .i64 p.2]), (48, .tuple #[.agg #[(.int .i64 p.1.f0), (.int .i64 p.1.f1), (.int .i64 p.1.f2), (.int .i64 p.1.f3), (.string p.1.f4)], .int .i64 p.2]), (59, .agg #[(.int .i64 p.1.f0), (.int .i64 p.1.f1), (.int .i64 p.1.f2), (.int .i64 p.1.f3), (.string p.1.f4)]), (60, .int .i64 p.2), (12, .pointer (some ⟨s_, 0, none⟩))]) (fun s_ w' => (w'.cell? ⟨w.heap.size, 2, none⟩ = some (.slice (some ad) ts.length c1) ∧ w'.cell? (ad.add (x.val * 4)) = some (.slice A0 t.f0.length c0) ∧ w'.cell? ⟨(ad.add (x.val * 4)).block, (ad.add (x.val * 4)).off + 1, none⟩ = some (.int .i64 t.f1) ∧ w'.cell? ⟨(ad.add (x.val * 4)).block, (ad.add (x.val * 4)).off + 2, none⟩ = some (.int .i64 t.f2) ∧ w'.cell? ⟨(ad.add (x.val * 4)).block, (ad.add (x.val * 4)).off + 3, none⟩ = some (.int .i64 t.f3) ∧ w'.cell? ⟨Bx, 0, none⟩ = some (.int .i64 s.f0) ∧ w'.cell? ⟨Bx, 1, none⟩ = some (.int .i64 s.f1) ∧ w'.cell? ⟨Bx, 2, none⟩ = some (.int .i64 s.f2) ∧ w'.cell? ⟨Bx, 3, none⟩ = some (.int .i64 s.f3) ∧ w'.cell? ⟨Bx, 4, none⟩ = some (.string s.f4) ∧ w'.cell? ⟨w.heap.size + 1, 0, none⟩ = some (.int .i64 now) ∧ w'.cell? ⟨w.heap.size + 1 + 1, 0, none⟩ = some (.int .i64 a5)) ∧ W.heap.size ≤ s_ ∧ w'.heap[s_]? = some (.cells #[(.int .i64 0), (.int .i64 0), (.int .i64 0), (.int .i64 0), (.string (⟨#[]⟩ : ByteArray))] 51 (0, 0)) ∧ Below W.heap.size W w') ?_ ?_
  rotate_left
  ·
   intro k0
   refine two_ (i := 9) (j := 13) (Ni := some 58) (Nj := some 12) (ba 16 1023) (ba 16 8703) rfl rfl rfl rfl (by kernel_rfl) (by decide) (by decide) (fun K hK => ?_) (fun K hK => ?_)
   ·
    skip
    refine q1r Try.func63 (by kernel_rfl) rfl #[.agg #[.slice A0 t.f0.length c0, .int .i64 t.f1, .int .i64 t.f2, .int .i64 t.f3], .agg #[(.int .i64 s.f0), (.int .i64 s.f1), (.int .i64 s.f2), (.int .i64 s.f3), (.string s.f4)], .int .i64 now, .int .i64 a5] (by rfl) rfl rfl (by simp only [List.map_toArray, List.map_cons, List.map_nil]; rfl) ?_
    with_reducible refine (X.Fz.calls k A0 c0 t.f0 t.f1 t.f2 t.f3 s.f0 s.f1 s.f2 s.f3 s.f4 now a5 _ _ _ _ _ _ _ (Kd.C_below p8.out (by (with_reducible repeat (first | apply q0f | apply q0b)); exact Below.refl W.heap.size W)) p9.out HP.out).mono ?_
    rintro e w7 ⟨rfl, hb⟩
    refine ⟨_, rfl, ?_⟩
    have a8 := am (q0k (by (with_reducible repeat (first | apply q0f | apply q0b)); exact Below.refl W.heap.size W) hb)
    clear hb
    refine hK.out _ _ ⟨(a4.out _ (a8.out) _ _ l2), (a4.out _ (a8.out) _ _ a0), (a4.out _ (a8.out) _ _ a1), (a4.out _ (a8.out) _ _ a2), (a4.out _ (a8.out) _ _ a3), (a4.out _ (a8.out) _ _ x0), (a4.out _ (a8.out) _ _ x1), (a4.out _ (a8.out) _ _ x2), (a4.out _ (a8.out) _ _ x3), (a4.out _ (a8.out) _ _ x4), (a4.out _ (a8.out) _ _ k4), (a4.out _ (a8.out) _ _ k5)⟩ (fun b5 => ?_)
    clear hK K
    refine nh ?_
    refine ph 10 48 (ba 16 2047) ?_
    refine ph 11 59 (ba 16 4095) ?_
    refine ph 12 60 (ba 16 8191) ?_
    refine oh 13 12 (ba 16 16383) fun K hK => ?_
    refine value_ (w1 := ?_) (v := ?_) (by rfl) rfl ?_ ?_
    rotate_left 2
    ·
     go_simp
     constructor
     ·
      rfl
     rfl
    refine hK.out _ _ ⟨(a4.out _ (q0f (a8.out) _) _ _ l2), (a4.out _ (q0f (a8.out) _) _ _ a0), (a4.out _ (q0f (a8.out) _) _ _ a1), (a4.out _ (q0f (a8.out) _) _ _ a2), (a4.out _ (q0f (a8.out) _) _ _ a3), (a4.out _ (q0f (a8.out) _) _ _ x0), (a4.out _ (q0f (a8.out) _) _ _ x1), (a4.out _ (q0f (a8.out) _) _ _ x2), (a4.out _ (q0f (a8.out) _) _ _ x3), (a4.out _ (q0f (a8.out) _) _ _ x4), (a4.out _ (q0f (a8.out) _) _ _ k4), (a4.out _ (q0f (a8.out) _) _ _ k5)⟩ (fun b5 => ?_)
    clear hK K
    refine nh ?_
    exact norm_ (by simp only [putAll, Act.put, List.setIfInBounds_toArray, List.set_cons_zero, List.set_cons_succ]) (k0 w7.heap.size _ ⟨b5, a8.out.size, q1t w7 (.cells #[(.int .i64 0), (.int .i64 0), (.int .i64 0), (.int .i64 0), (.string (⟨#[]⟩ : ByteArray))] 51), q0f a8.out _⟩)
   skip
   refine value_ (w1 := ?_) (v := ?_) (by rfl) rfl ?_ ?_
   rotate_left 2
   ·
    go_simp
    constructor
    ·
     rfl
    rfl
   refine hK.out _ _ ⟨(a4.out _ (q0f (q0b (Below.refl _ _)) _) _ _ l2), (a4.out _ (q0f (q0b (Below.refl _ _)) _) _ _ a0), (a4.out _ (q0f (q0b (Below.refl _ _)) _) _ _ a1), (a4.out _ (q0f (q0b (Below.refl _ _)) _) _ _ a2), (a4.out _ (q0f (q0b (Below.refl _ _)) _) _ _ a3), (a4.out _ (q0f (q0b (Below.refl _ _)) _) _ _ x0), (a4.out _ (q0f (q0b (Below.refl _ _)) _) _ _ x1), (a4.out _ (q0f (q0b (Below.refl _ _)) _) _ _ x2), (a4.out _ (q0f (q0b (Below.refl _ _)) _) _ _ x3), (a4.out _ (q0f (q0b (Below.refl _ _)) _) _ _ x4), (a4.out _ (q0f (q0b (Below.refl _ _)) _) _ _ k4), (a4.out _ (q0f (q0b (Below.refl _ _)) _) _ _ k5)⟩ (fun b5 => ?_)
   clear hK K
   refine nh ?_
   refine oh 9 58 (ba 16 9215) fun K hK => ?_
   refine q1r Try.func63 (by kernel_rfl) rfl #[.agg #[.slice A0 t.f0.length c0, .int .i64 t.f1, .int .i64 t.f2, .int .i64 t.f3], .agg #[(.int .i64 s.f0), (.int .i64 s.f1), (.int .i64 s.f2), (.int .i64 s.f3), (.string s.f4)], .int .i64 now, .int .i64 a5] (by rfl) rfl rfl (by simp only [List.map_toArray, List.map_cons, List.map_nil]; rfl) ?_
   with_reducible refine (X.Fz.calls k A0 c0 t.f0 t.f1 t.f2 t.f3 s.f0 s.f1 s.f2 s.f3 s.f4 now a5 _ _ _ _ _ _ _ (Kd.C_below p8.out (by (with_reducible repeat (first | apply q0f | apply q0b)); exact Below.refl W.heap.size W)) p9.out HP.out).mono ?_
   rintro e w7 ⟨rfl, hb⟩
   refine ⟨_, rfl, ?_⟩
   have a8 := am (q0k (by (with_reducible repeat (first | apply q0f | apply q0b)); exact Below.refl W.heap.size W) hb)
   have s4 := am (q0c (show (W.alloc (.cells #[(.int .i64 0), (.int .i64 0), (.int .i64 0), (.int .i64 0), (.string (⟨#[]⟩ : ByteArray))] 51)).drew.heap[W.heap.size]? = some (.cells #[(.int .i64 0), (.int .i64 0), (.int .i64 0), (.int .i64 0), (.string (⟨#[]⟩ : ByteArray))] 51 (0, 0)) from q0g (q1t W (.cells #[(.int .i64 0), (.int .i64 0), (.int .i64 0), (.int .i64 0), (.string (⟨#[]⟩ : ByteArray))] 51))) hb)
   clear hb
   refine hK.out _ _ ⟨(a4.out _ (a8.out) _ _ l2), (a4.out _ (a8.out) _ _ a0), (a4.out _ (a8.out) _ _ a1), (a4.out _ (a8.out) _ _ a2), (a4.out _ (a8.out) _ _ a3), (a4.out _ (a8.out) _ _ x0), (a4.out _ (a8.out) _ _ x1), (a4.out _ (a8.out) _ _ x2), (a4.out _ (a8.out) _ _ x3), (a4.out _ (a8.out) _ _ x4), (a4.out _ (a8.out) _ _ k4), (a4.out _ (a8.out) _ _ k5)⟩ (fun b5 => ?_)
   clear hK K
   refine nh ?_
   refine ph 10 48 (ba 16 10239) ?_
   refine ph 11 59 (ba 16 12287) ?_
   refine ph 12 60 (ba 16 16383) ?_
   exact norm_ (by simp only [putAll, Act.put, List.setIfInBounds_toArray, List.set_cons_zero, List.set_cons_succ]) (k0 W.heap.size _ ⟨b5, Nat.le_refl _, s4.out, a8.out⟩)
  rintro a6 w7 ⟨q7, r3, r0, r1⟩
  have c7 := am r3
  have BP := am r0
  have a8 := am r1
  have b5 := q7
  clear r3 r0 r1 q7
  have y0 : w7.cell? ⟨a6, 0, none⟩ = some (.int .i64 0) := bc BP.out
  have y1 : w7.cell? ⟨a6, 1, none⟩ = some (.int .i64 0) := bc BP.out
  have y2 : w7.cell? ⟨a6, 2, none⟩ = some (.int .i64 0) := bc BP.out
  have y3 : w7.cell? ⟨a6, 3, none⟩ = some (.int .i64 0) := bc BP.out
  have y4 : w7.cell? ⟨a6, 4, none⟩ = some (.string (⟨#[]⟩ : ByteArray)) := bc BP.out
  have v0 := q0j BP.out 0
  have v1 := q0j BP.out 1
  have v2 := q0j BP.out 2
  have v4 := q0j BP.out 3
  have v5 := q0j BP.out 4
  refine norm_ (a' := ?_) ?_ ?_
  rotate_left
  ·
   simp only [putAll, Act.put, List.setIfInBounds_toArray, List.set_cons_zero, List.set_cons_succ]
   rfl
  refine last_ (i := 14) (N := none) (ba 16 32767) rfl rfl (by kernel_rfl) (by decide) (fun K hK => ?_)
  refine skip_ (w1 := ?_) (by rfl) rfl ?_ ?_
  rotate_left
  ·
   go_simp
   rfl
  refine hK.out _ _ ?_
  clear hK K
  refine ph 15 13 (ba 16 65535) ?_
  refine q1w (by kernel_rfl) ?_
  have X3 := am (show (((((w7.setCell ⟨a6, 0, none⟩ (.int .i64 p.1.f0)).setCell ⟨a6, 1, none⟩ (.int .i64 p.1.f1)).setCell ⟨a6, 2, none⟩ (.int .i64 p.1.f2)).setCell ⟨a6, 3, none⟩ (.int .i64 p.1.f3)).setCell ⟨a6, 4, none⟩ (.string p.1.f4)).heap[w.heap.size]? = some (.cells (#[(.string ky), (.string nm), (.slice (some ad) ts.length c1), (.int .i64 0), (.slice A3 ys.length c3)] : Array Value) 27 (0, 0)) from (q0n (q0n (q0n (q0n (q0n (q0c Z3.out a8.out) (by have b9 := c7.out; have a7 := a9.out.size; have d7 := HS.out; show w.heap.size ≠ a6; omega) _) (by have b9 := c7.out; have a7 := a9.out.size; have d7 := HS.out; show w.heap.size ≠ a6; omega) _) (by have b9 := c7.out; have a7 := a9.out.size; have d7 := HS.out; show w.heap.size ≠ a6; omega) _) (by have b9 := c7.out; have a7 := a9.out.size; have d7 := HS.out; show w.heap.size ≠ a6; omega) _) (by have b9 := c7.out; have a7 := a9.out.size; have d7 := HS.out; show w.heap.size ≠ a6; omega) _))
  have X4 := am (show (((((w7.setCell ⟨a6, 0, none⟩ (.int .i64 p.1.f0)).setCell ⟨a6, 1, none⟩ (.int .i64 p.1.f1)).setCell ⟨a6, 2, none⟩ (.int .i64 p.1.f2)).setCell ⟨a6, 3, none⟩ (.int .i64 p.1.f3)).setCell ⟨a6, 4, none⟩ (.string p.1.f4)).heap[w.heap.size + 1]? = some (.cells (#[(.int .i64 now)] : Array Value) 3 (0, 0)) from (q0n (q0n (q0n (q0n (q0n (q0c Z4.out a8.out) (by have b9 := c7.out; have a7 := a9.out.size; have d7 := HS.out; show w.heap.size + 1 ≠ a6; omega) _) (by have b9 := c7.out; have a7 := a9.out.size; have d7 := HS.out; show w.heap.size + 1 ≠ a6; omega) _) (by have b9 := c7.out; have a7 := a9.out.size; have d7 := HS.out; show w.heap.size + 1 ≠ a6; omega) _) (by have b9 := c7.out; have a7 := a9.out.size; have d7 := HS.out; show w.heap.size + 1 ≠ a6; omega) _) (by have b9 := c7.out; have a7 := a9.out.size; have d7 := HS.out; show w.heap.size + 1 ≠ a6; omega) _))
  have X5 := am (show (((((w7.setCell ⟨a6, 0, none⟩ (.int .i64 p.1.f0)).setCell ⟨a6, 1, none⟩ (.int .i64 p.1.f1)).setCell ⟨a6, 2, none⟩ (.int .i64 p.1.f2)).setCell ⟨a6, 3, none⟩ (.int .i64 p.1.f3)).setCell ⟨a6, 4, none⟩ (.string p.1.f4)).heap[w.heap.size + 1 + 1]? = some (.cells (#[(.int .i64 a5)] : Array Value) 3 (0, 0)) from (q0n (q0n (q0n (q0n (q0n (q0c Z5.out a8.out) (by have b9 := c7.out; have a7 := a9.out.size; have d7 := HS.out; show w.heap.size + 1 + 1 ≠ a6; omega) _) (by have b9 := c7.out; have a7 := a9.out.size; have d7 := HS.out; show w.heap.size + 1 + 1 ≠ a6; omega) _) (by have b9 := c7.out; have a7 := a9.out.size; have d7 := HS.out; show w.heap.size + 1 + 1 ≠ a6; omega) _) (by have b9 := c7.out; have a7 := a9.out.size; have d7 := HS.out; show w.heap.size + 1 + 1 ≠ a6; omega) _) (by have b9 := c7.out; have a7 := a9.out.size; have d7 := HS.out; show w.heap.size + 1 + 1 ≠ a6; omega) _))
  have X6 := am (show (((((w7.setCell ⟨a6, 0, none⟩ (.int .i64 p.1.f0)).setCell ⟨a6, 1, none⟩ (.int .i64 p.1.f1)).setCell ⟨a6, 2, none⟩ (.int .i64 p.1.f2)).setCell ⟨a6, 3, none⟩ (.int .i64 p.1.f3)).setCell ⟨a6, 4, none⟩ (.string p.1.f4)).heap[w.heap.size + 1 + 1 + 1]? = some (.cells (#[(.string (⟨#[]⟩ : ByteArray)), (.string (⟨#[]⟩ : ByteArray)), (.slice none 0 0), (.int .i64 0), (.slice none 0 0)] : Array Value) 27 (0, 0)) from (q0n (q0n (q0n (q0n (q0n (q0c Z6.out a8.out) (by have b9 := c7.out; have a7 := a9.out.size; have d7 := HS.out; show w.heap.size + 1 + 1 + 1 ≠ a6; omega) _) (by have b9 := c7.out; have a7 := a9.out.size; have d7 := HS.out; show w.heap.size + 1 + 1 + 1 ≠ a6; omega) _) (by have b9 := c7.out; have a7 := a9.out.size; have d7 := HS.out; show w.heap.size + 1 + 1 + 1 ≠ a6; omega) _) (by have b9 := c7.out; have a7 := a9.out.size; have d7 := HS.out; show w.heap.size + 1 + 1 + 1 ≠ a6; omega) _) (by have b9 := c7.out; have a7 := a9.out.size; have d7 := HS.out; show w.heap.size + 1 + 1 + 1 ≠ a6; omega) _))
  have X7 := am (show (((((w7.setCell ⟨a6, 0, none⟩ (.int .i64 p.1.f0)).setCell ⟨a6, 1, none⟩ (.int .i64 p.1.f1)).setCell ⟨a6, 2, none⟩ (.int .i64 p.1.f2)).setCell ⟨a6, 3, none⟩ (.int .i64 p.1.f3)).setCell ⟨a6, 4, none⟩ (.string p.1.f4)).heap[w.heap.size + 1 + 1 + 1 + 1]? = some (.cells (#[(.int .i64 0)] : Array Value) 3 (0, 0)) from (q0n (q0n (q0n (q0n (q0n (q0c Z7.out a8.out) (by have b9 := c7.out; have a7 := a9.out.size; have d7 := HS.out; show w.heap.size + 1 + 1 + 1 + 1 ≠ a6; omega) _) (by have b9 := c7.out; have a7 := a9.out.size; have d7 := HS.out; show w.heap.size + 1 + 1 + 1 + 1 ≠ a6; omega) _) (by have b9 := c7.out; have a7 := a9.out.size; have d7 := HS.out; show w.heap.size + 1 + 1 + 1 + 1 ≠ a6; omega) _) (by have b9 := c7.out; have a7 := a9.out.size; have d7 := HS.out; show w.heap.size + 1 + 1 + 1 + 1 ≠ a6; omega) _) (by have b9 := c7.out; have a7 := a9.out.size; have d7 := HS.out; show w.heap.size + 1 + 1 + 1 + 1 ≠ a6; omega) _))
  have X8 := am (show (((((w7.setCell ⟨a6, 0, none⟩ (.int .i64 p.1.f0)).setCell ⟨a6, 1, none⟩ (.int .i64 p.1.f1)).setCell ⟨a6, 2, none⟩ (.int .i64 p.1.f2)).setCell ⟨a6, 3, none⟩ (.int .i64 p.1.f3)).setCell ⟨a6, 4, none⟩ (.string p.1.f4)).heap[w.heap.size + 1 + 1 + 1 + 1 + 1]? = some (.cells (#[(.int .i64 0)] : Array Value) 29 (0, 0)) from (q0n (q0n (q0n (q0n (q0n (q0c Z8.out a8.out) (by have b9 := c7.out; have a7 := a9.out.size; have d7 := HS.out; show w.heap.size + 1 + 1 + 1 + 1 + 1 ≠ a6; omega) _) (by have b9 := c7.out; have a7 := a9.out.size; have d7 := HS.out; show w.heap.size + 1 + 1 + 1 + 1 + 1 ≠ a6; omega) _) (by have b9 := c7.out; have a7 := a9.out.size; have d7 := HS.out; show w.heap.size + 1 + 1 + 1 + 1 + 1 ≠ a6; omega) _) (by have b9 := c7.out; have a7 := a9.out.size; have d7 := HS.out; show w.heap.size + 1 + 1 + 1 + 1 + 1 ≠ a6; omega) _) (by have b9 := c7.out; have a7 := a9.out.size; have d7 := HS.out; show w.heap.size + 1 + 1 + 1 + 1 + 1 ≠ a6; omega) _))
  have XP := am (show (((((w7.setCell ⟨a6, 0, none⟩ (.int .i64 p.1.f0)).setCell ⟨a6, 1, none⟩ (.int .i64 p.1.f1)).setCell ⟨a6, 2, none⟩ (.int .i64 p.1.f2)).setCell ⟨a6, 3, none⟩ (.int .i64 p.1.f3)).setCell ⟨a6, 4, none⟩ (.string p.1.f4)).heap[a6]? = some (.cells #[(.int .i64 p.1.f0), (.int .i64 p.1.f1), (.int .i64 p.1.f2), (.int .i64 p.1.f3), (.string p.1.f4)] 51 (0, 0)) from (q0q (cs := #[(.int .i64 p.1.f0), (.int .i64 p.1.f1), (.int .i64 p.1.f2), (.int .i64 p.1.f3), (.string (⟨#[]⟩ : ByteArray))]) (cs' := #[(.int .i64 p.1.f0), (.int .i64 p.1.f1), (.int .i64 p.1.f2), (.int .i64 p.1.f3), (.string p.1.f4)]) (q0q (cs := #[(.int .i64 p.1.f0), (.int .i64 p.1.f1), (.int .i64 p.1.f2), (.int .i64 0), (.string (⟨#[]⟩ : ByteArray))]) (cs' := #[(.int .i64 p.1.f0), (.int .i64 p.1.f1), (.int .i64 p.1.f2), (.int .i64 p.1.f3), (.string (⟨#[]⟩ : ByteArray))]) (q0q (cs := #[(.int .i64 p.1.f0), (.int .i64 p.1.f1), (.int .i64 0), (.int .i64 0), (.string (⟨#[]⟩ : ByteArray))]) (cs' := #[(.int .i64 p.1.f0), (.int .i64 p.1.f1), (.int .i64 p.1.f2), (.int .i64 0), (.string (⟨#[]⟩ : ByteArray))]) (q0q (cs := #[(.int .i64 p.1.f0), (.int .i64 0), (.int .i64 0), (.int .i64 0), (.string (⟨#[]⟩ : ByteArray))]) (cs' := #[(.int .i64 p.1.f0), (.int .i64 p.1.f1), (.int .i64 0), (.int .i64 0), (.string (⟨#[]⟩ : ByteArray))]) (q0q (cs := #[(.int .i64 0), (.int .i64 0), (.int .i64 0), (.int .i64 0), (.string (⟨#[]⟩ : ByteArray))]) (cs' := #[(.int .i64 p.1.f0), (.int .i64 0), (.int .i64 0), (.int .i64 0), (.string (⟨#[]⟩ : ByteArray))]) BP.out 0 _ rfl) 1 _ rfl) 2 _ rfl) 3 _ rfl) 4 _ rfl))
  have c6 := am (show w5.heap.size ≤ a6 from Nat.le_trans a9.out.size c7.out)
  have l3 := am (show Below w.heap.size w (((((w7.setCell ⟨a6, 0, none⟩ (.int .i64 p.1.f0)).setCell ⟨a6, 1, none⟩ (.int .i64 p.1.f1)).setCell ⟨a6, 2, none⟩ (.int .i64 p.1.f2)).setCell ⟨a6, 3, none⟩ (.int .i64 p.1.f3)).setCell ⟨a6, 4, none⟩ (.string p.1.f4)) from (q0o (q0o (q0o (q0o (q0o (q0k h0.out a8.out) (by have b9 := c6.out; have a7 := HS.out; show w.heap.size ≤ a6; omega)) (by have b9 := c6.out; have a7 := HS.out; show w.heap.size ≤ a6; omega)) (by have b9 := c6.out; have a7 := HS.out; show w.heap.size ≤ a6; omega)) (by have b9 := c6.out; have a7 := HS.out; show w.heap.size ≤ a6; omega)) (by have b9 := c6.out; have a7 := HS.out; show w.heap.size ≤ a6; omega)))
  have q3 := am (show Below w5.heap.size w5 (((((w7.setCell ⟨a6, 0, none⟩ (.int .i64 p.1.f0)).setCell ⟨a6, 1, none⟩ (.int .i64 p.1.f1)).setCell ⟨a6, 2, none⟩ (.int .i64 p.1.f2)).setCell ⟨a6, 3, none⟩ (.int .i64 p.1.f3)).setCell ⟨a6, 4, none⟩ (.string p.1.f4)) from (q0o (q0o (q0o (q0o (q0o (q0k a9.out a8.out) c6.out) c6.out) c6.out) c6.out) c6.out))
  have q5 := am (show Below w5.heap.size W (((((w7.setCell ⟨a6, 0, none⟩ (.int .i64 p.1.f0)).setCell ⟨a6, 1, none⟩ (.int .i64 p.1.f1)).setCell ⟨a6, 2, none⟩ (.int .i64 p.1.f2)).setCell ⟨a6, 3, none⟩ (.int .i64 p.1.f3)).setCell ⟨a6, 4, none⟩ (.string p.1.f4)) from ((((((a8.out.mono a9.out.size).setCell (p := ⟨a6, 0, none⟩) c6.out _).setCell (p := ⟨a6, 1, none⟩) c6.out _).setCell (p := ⟨a6, 2, none⟩) c6.out _).setCell (p := ⟨a6, 3, none⟩) c6.out _).setCell (p := ⟨a6, 4, none⟩) c6.out _))
  have KF := am (show KeepsFrom w5.heap.size W (((((w7.setCell ⟨a6, 0, none⟩ (.int .i64 p.1.f0)).setCell ⟨a6, 1, none⟩ (.int .i64 p.1.f1)).setCell ⟨a6, 2, none⟩ (.int .i64 p.1.f2)).setCell ⟨a6, 3, none⟩ (.int .i64 p.1.f3)).setCell ⟨a6, 4, none⟩ (.string p.1.f4)) from (KeepsFrom.trans (KeepsFrom.trans (KeepsFrom.trans (KeepsFrom.trans (KeepsFrom.trans ((q1f a8.out).from w5.heap.size) ((KeepsOthers.setCell _ _ _).from _)) ((KeepsOthers.setCell _ _ _).from _)) ((KeepsOthers.setCell _ _ _).from _)) ((KeepsOthers.setCell _ _ _).from _)) ((KeepsOthers.setCell _ _ _).from _)))
  clear b5 a4 a8 c7 BP HX k4 k5 l2 x0 x1 x2 x3 x4 a0 a1 a2 a3 y0 y1 y2 y3 y4 v0 v1 v2 v4 v5 h0 a9 Z3 Z4 Z5 Z6 Z7 Z8
  have Z3 := X3
  have Z4 := X4
  have Z5 := X5
  have Z6 := X6
  have Z7 := X7
  have Z8 := X8
  have h0 := l3
  have a9 := q3
  clear l3 q3 X3 X4 X5 X6 X7 X8
  generalize (((((w7.setCell ⟨a6, 0, none⟩ (.int .i64 p.1.f0)).setCell ⟨a6, 1, none⟩ (.int .i64 p.1.f1)).setCell ⟨a6, 2, none⟩ (.int .i64 p.1.f2)).setCell ⟨a6, 3, none⟩ (.int .i64 p.1.f3)).setCell ⟨a6, 4, none⟩ (.string p.1.f4)) = w8 at *
  by_cases q2 : p.2 = 0
  case neg =>
   have n8 := am q2
   have E4 := beq_eq_false_iff_ne.2 q2
   clear q2
   gi_wp2
   refine ⟨KF.out, q5.out, ⟨Z3.out, Z4.out, Z5.out, Z6.out, Z7.out, Z8.out⟩, h0.out, a9.out, fun y hy => ?_⟩
   rcases List.mem_append.1 hy with hy | hy
   ·
    exact m2.out y hy
   obtain rfl := List.mem_singleton.1 hy
   intro p' r4
   rw [p7.out, q1.out, p6.out] at r4
   cases r4
   exact n8.out
  have n8 := am q2
  have E4 := q2
  clear q2 q5
  obtain ⟨b0, b1, b2, b3, b4⟩ := ce5 Z3.out
  have j4 := q0j Z3.out 4
  gi_wp2_with ((first | (refine ⟨trivial, ?_⟩; gi_at_call 37) | gi_at_call 37); refine (CallsIn.inRound l (callsIn_wide.2 (q4t A3 c3 ys _ (q1k.reads (q1k.below H3.out a9.out) HC.out h0.out) (by have h_ := l0.out; (try dsimp only at h_); omega)))).mono ?_; rintro e w9 ⟨v9, rfl, ho, hb⟩; obtain ⟨A9, c9, e9⟩ := Kd.R_slice ho; subst e9; have H9 := am (Kd.R_lower ho (q0m h0.out)); have X3 := am (q0c Z3.out hb); have X6 := am (q0c Z6.out hb); have X7 := am (q0c Z7.out hb); have X8 := am (q0c Z8.out hb); have q6 := am (q0c XP.out hb); have l3 := am (q0k h0.out hb); have q4 := am (KeepsFrom.trans KF.out ((q1f hb).from _)); clear Z3 Z6 Z7 Z8 Z4 Z5 XP h0 KF hb ho b0 b1 b2 b3 b4 j4; have Z3 := X3; have Z6 := X6; have Z7 := X7; have Z8 := X8; have XP := q6; have h0 := l3; have KF := q4; clear X3 X6 X7 X8 q6 l3 q4; obtain ⟨gr, v7, e6, l4, v8, o1, l1⟩ := Kd.R_form H9.out (by have := HI.out; omega); injection e6 with e6 e7 e8; subst e6; subst e8; clear e7; obtain ⟨cc, t5, o2, k7, r2⟩ := Kd.R_elem H9.out z51 ((x.val : Nat) : Int) (by omega) (by have := HI.out; omega); rw [Int.toNat_natCast] at k7 r2; generalize ys.getD (((x.val : Nat) : Int)).toNat z51 = s2 at o2; obtain rfl := X.k51_openM o2; clear o2 t5; have t0 : w9.cell? ⟨gr, x.val * 5, none⟩ = some (.int .i64 s2.f0) := k7 0 _ rfl; have t1 : w9.cell? ⟨gr, x.val * 5 + 1, none⟩ = some (.int .i64 s2.f1) := k7 1 _ rfl; have t2 : w9.cell? ⟨gr, x.val * 5 + 2, none⟩ = some (.int .i64 s2.f2) := k7 2 _ rfl; have t3 : w9.cell? ⟨gr, x.val * 5 + 3, none⟩ = some (.int .i64 s2.f3) := k7 3 _ rfl; have t4 : w9.cell? ⟨gr, x.val * 5 + 4, none⟩ = some (.string s2.f4) := k7 4 _ rfl; have u5 : w9.frozen? ⟨gr, x.val * 5, none⟩ = false := q0j l1 _; have u6 : w9.frozen? ⟨gr, x.val * 5 + 1, none⟩ = false := q0j l1 _; have u7 : w9.frozen? ⟨gr, x.val * 5 + 2, none⟩ = false := q0j l1 _; have u8 : w9.frozen? ⟨gr, x.val * 5 + 3, none⟩ = false := q0j l1 _; have u9 : w9.frozen? ⟨gr, x.val * 5 + 4, none⟩ = false := q0j l1 _; have o0 := am (Kd.own_blk (Kd.R_ne H9.out Z3.out (by decide))); have m3 := am (Kd.own_blk (Kd.R_ne H9.out Z6.out (by decide))); have m4 := am (Kd.own_blk (Kd.R_ne H9.out Z7.out (by decide))); have m5 := am (Kd.own_blk (Kd.R_ne H9.out Z8.out (by decide))); have x7 := o0.out; have z0 := o0.out.symm; have x9 := m3.out; have z6 := m3.out.symm; have y7 := m4.out; have z7 := m4.out.symm; have y9 := m5.out; have z8 := m5.out.symm; have o4 : w.heap.size ≠ a6 := (by have b9 := c6.out; have a7 := HS.out; omega); have u4 := o4.symm; have n7 := am l4; clear k7 r2 l4 l1; obtain ⟨b0, b1, b2, b3, b4⟩ := ce5 Z3.out; have j4 := q0j Z3.out 4; have y0 : w9.cell? ⟨a6, 0, none⟩ = some (.int .i64 p.1.f0) := bc XP.out; have y1 : w9.cell? ⟨a6, 1, none⟩ = some (.int .i64 p.1.f1) := bc XP.out; have y2 : w9.cell? ⟨a6, 2, none⟩ = some (.int .i64 p.1.f2) := bc XP.out; have y3 : w9.cell? ⟨a6, 3, none⟩ = some (.int .i64 p.1.f3) := bc XP.out; have y4 : w9.cell? ⟨a6, 4, none⟩ = some (.string p.1.f4) := bc XP.out; obtain ⟨d0, d1, d2, d3, d4⟩ := ce5 Z6.out; obtain ⟨j5, j6, j7, j8, j9⟩ := z5 Z6.out; have q0 := ce1 Z7.out; have k1 := z1 Z7.out; have u0 := ce1 Z8.out; have k2 := z1 Z8.out)
  have X6 := am (show (St5 (w9.setCell ⟨w.heap.size, 4, none⟩ (.slice (some ⟨gr, 0, none⟩) ys.length c9)) gr (x.val * 5) p.1).heap[w.heap.size + 1 + 1 + 1]? = some (.cells (#[(.string (⟨#[]⟩ : ByteArray)), (.string (⟨#[]⟩ : ByteArray)), (.slice none 0 0), (.int .i64 0), (.slice none 0 0)] : Array Value) 27 (0, 0)) from q3q _ _ _ _ _ _ _ (q0n Z6.out (by show w.heap.size + 1 + 1 + 1 ≠ w.heap.size; omega) _) m3.out.symm)
  have X7 := am (show (St5 (w9.setCell ⟨w.heap.size, 4, none⟩ (.slice (some ⟨gr, 0, none⟩) ys.length c9)) gr (x.val * 5) p.1).heap[w.heap.size + 1 + 1 + 1 + 1]? = some (.cells (#[(.int .i64 0)] : Array Value) 3 (0, 0)) from q3q _ _ _ _ _ _ _ (q0n Z7.out (by show w.heap.size + 1 + 1 + 1 + 1 ≠ w.heap.size; omega) _) m4.out.symm)
  have X8 := am (show (St5 (w9.setCell ⟨w.heap.size, 4, none⟩ (.slice (some ⟨gr, 0, none⟩) ys.length c9)) gr (x.val * 5) p.1).heap[w.heap.size + 1 + 1 + 1 + 1 + 1]? = some (.cells (#[(.int .i64 0)] : Array Value) 29 (0, 0)) from q3q _ _ _ _ _ _ _ (q0n Z8.out (by show w.heap.size + 1 + 1 + 1 + 1 + 1 ≠ w.heap.size; omega) _) m5.out.symm)
  have XR := am (show Kd.R k51 51 (St5 (w9.setCell ⟨w.heap.size, 4, none⟩ (.slice (some ⟨gr, 0, none⟩) ys.length c9)) gr (x.val * 5) p.1) w.heap.size (fun _ => True) (.slice (some ⟨gr, 0, none⟩) ys.length c9) (ys.set x.val p.1) from put51 _ w.heap.size gr ys.length c9 (fun _ => True) ys (Kd.R_set H9.out Z3.out (by decide) 4 (.slice (some ⟨gr, 0, none⟩) ys.length c9)) x.val HI.out p.1)
  have XB := am (show Below w.heap.size w (St5 (w9.setCell ⟨w.heap.size, 4, none⟩ (.slice (some ⟨gr, 0, none⟩) ys.length c9)) gr (x.val * 5) p.1) from st5_below _ _ _ _ _ (q0o h0.out (by show w.heap.size ≤ w.heap.size; omega)) n7.out)
  have XK := am (show KeepsFrom w5.heap.size W (St5 (w9.setCell ⟨w.heap.size, 4, none⟩ (.slice (some ⟨gr, 0, none⟩) ys.length c9)) gr (x.val * 5) p.1) from KeepsFrom.trans (KeepsFrom.trans (KeepsFrom.trans (KeepsFrom.trans (KeepsFrom.trans (KeepsFrom.trans KF.out ((KeepsOthers.setCell _ _ _).from _)) ((KeepsOthers.setCell _ _ _).from _)) ((KeepsOthers.setCell _ _ _).from _)) ((KeepsOthers.setCell _ _ _).from _)) ((KeepsOthers.setCell _ _ _).from _)) ((KeepsOthers.setCell _ _ _).from _))
  clear Z3 Z6 Z7 Z8 H9 h0 KF XP o0 m3 m4 m5 t0 t1 t2 t3 t4 u5 u6 u7 u8 u9 y0 y1 y2 y3 y4 j4 q0 k1 u0 k2 b0 b1 b2 b3 b4 d0 d1 d2 d3 d4 j5 j6 j7 j8 j9
  unfold St5 at X6 X7 X8 XR XB XK
  generalize ((((((w9.setCell ⟨w.heap.size, 4, none⟩ (.slice (some ⟨gr, 0, none⟩) ys.length c9)).setCell ⟨gr, x.val * 5, none⟩ (.int .i64 p.1.f0)).setCell ⟨gr, x.val * 5 + 1, none⟩ (.int .i64 p.1.f1)).setCell ⟨gr, x.val * 5 + 2, none⟩ (.int .i64 p.1.f2)).setCell ⟨gr, x.val * 5 + 3, none⟩ (.int .i64 p.1.f3)).setCell ⟨gr, x.val * 5 + 4, none⟩ (.string p.1.f4)) = k3 at *
  have F6 := (show (((((((k3.setCell ⟨w.heap.size + 1 + 1 + 1, 0, none⟩ (.string ky)).setCell ⟨w.heap.size + 1 + 1 + 1, 1, none⟩ (.string nm)).setCell ⟨w.heap.size + 1 + 1 + 1, 2, none⟩ (.slice (some ad) ts.length c1)).setCell ⟨w.heap.size + 1 + 1 + 1, 3, none⟩ (.int .i64 0)).setCell ⟨w.heap.size + 1 + 1 + 1, 4, none⟩ (.slice (some ⟨gr, 0, none⟩) ys.length c9)).setCell ⟨w.heap.size + 1 + 1 + 1 + 1, 0, none⟩ (.int .i64 ((x.val : Nat) : Int))).setCell ⟨w.heap.size + 1 + 1 + 1 + 1 + 1, 0, none⟩ (.int .i64 0)).heap[w.heap.size + 1 + 1 + 1]? = some (.cells (#[(.string ky), (.string nm), (.slice (some ad) ts.length c1), (.int .i64 0), (.slice (some ⟨gr, 0, none⟩) ys.length c9)] : Array Value) 27 (0, 0)) from (q0n (q0n (q0q (cs := #[(.string ky), (.string nm), (.slice (some ad) ts.length c1), (.int .i64 0), (.slice none 0 0)]) (cs' := #[(.string ky), (.string nm), (.slice (some ad) ts.length c1), (.int .i64 0), (.slice (some ⟨gr, 0, none⟩) ys.length c9)]) (q0q (cs := #[(.string ky), (.string nm), (.slice (some ad) ts.length c1), (.int .i64 0), (.slice none 0 0)]) (cs' := #[(.string ky), (.string nm), (.slice (some ad) ts.length c1), (.int .i64 0), (.slice none 0 0)]) (q0q (cs := #[(.string ky), (.string nm), (.slice none 0 0), (.int .i64 0), (.slice none 0 0)]) (cs' := #[(.string ky), (.string nm), (.slice (some ad) ts.length c1), (.int .i64 0), (.slice none 0 0)]) (q0q (cs := #[(.string ky), (.string (⟨#[]⟩ : ByteArray)), (.slice none 0 0), (.int .i64 0), (.slice none 0 0)]) (cs' := #[(.string ky), (.string nm), (.slice none 0 0), (.int .i64 0), (.slice none 0 0)]) (q0q (cs := #[(.string (⟨#[]⟩ : ByteArray)), (.string (⟨#[]⟩ : ByteArray)), (.slice none 0 0), (.int .i64 0), (.slice none 0 0)]) (cs' := #[(.string ky), (.string (⟨#[]⟩ : ByteArray)), (.slice none 0 0), (.int .i64 0), (.slice none 0 0)]) X6.out 0 _ rfl) 1 _ rfl) 2 _ rfl) 3 _ rfl) 4 _ rfl) (by show w.heap.size + 1 + 1 + 1 ≠ w.heap.size + 1 + 1 + 1 + 1; omega) _) (by show w.heap.size + 1 + 1 + 1 ≠ w.heap.size + 1 + 1 + 1 + 1 + 1; omega) _))
  have F7 := (show (((((((k3.setCell ⟨w.heap.size + 1 + 1 + 1, 0, none⟩ (.string ky)).setCell ⟨w.heap.size + 1 + 1 + 1, 1, none⟩ (.string nm)).setCell ⟨w.heap.size + 1 + 1 + 1, 2, none⟩ (.slice (some ad) ts.length c1)).setCell ⟨w.heap.size + 1 + 1 + 1, 3, none⟩ (.int .i64 0)).setCell ⟨w.heap.size + 1 + 1 + 1, 4, none⟩ (.slice (some ⟨gr, 0, none⟩) ys.length c9)).setCell ⟨w.heap.size + 1 + 1 + 1 + 1, 0, none⟩ (.int .i64 ((x.val : Nat) : Int))).setCell ⟨w.heap.size + 1 + 1 + 1 + 1 + 1, 0, none⟩ (.int .i64 0)).heap[w.heap.size + 1 + 1 + 1 + 1]? = some (.cells (#[(.int .i64 ((x.val : Nat) : Int))] : Array Value) 3 (0, 0)) from (q0n (q0q (cs := #[.int .i64 0]) (cs' := #[.int .i64 ((x.val : Nat) : Int)]) (q0n (q0n (q0n (q0n (q0n X7.out (by show w.heap.size + 1 + 1 + 1 + 1 ≠ w.heap.size + 1 + 1 + 1; omega) _) (by show w.heap.size + 1 + 1 + 1 + 1 ≠ w.heap.size + 1 + 1 + 1; omega) _) (by show w.heap.size + 1 + 1 + 1 + 1 ≠ w.heap.size + 1 + 1 + 1; omega) _) (by show w.heap.size + 1 + 1 + 1 + 1 ≠ w.heap.size + 1 + 1 + 1; omega) _) (by show w.heap.size + 1 + 1 + 1 + 1 ≠ w.heap.size + 1 + 1 + 1; omega) _) 0 _ rfl) (by show w.heap.size + 1 + 1 + 1 + 1 ≠ w.heap.size + 1 + 1 + 1 + 1 + 1; omega) _))
  have F8 := (show (((((((k3.setCell ⟨w.heap.size + 1 + 1 + 1, 0, none⟩ (.string ky)).setCell ⟨w.heap.size + 1 + 1 + 1, 1, none⟩ (.string nm)).setCell ⟨w.heap.size + 1 + 1 + 1, 2, none⟩ (.slice (some ad) ts.length c1)).setCell ⟨w.heap.size + 1 + 1 + 1, 3, none⟩ (.int .i64 0)).setCell ⟨w.heap.size + 1 + 1 + 1, 4, none⟩ (.slice (some ⟨gr, 0, none⟩) ys.length c9)).setCell ⟨w.heap.size + 1 + 1 + 1 + 1, 0, none⟩ (.int .i64 ((x.val : Nat) : Int))).setCell ⟨w.heap.size + 1 + 1 + 1 + 1 + 1, 0, none⟩ (.int .i64 0)).heap[w.heap.size + 1 + 1 + 1 + 1 + 1]? = some (.cells (#[(.int .i64 0)] : Array Value) 29 (0, 0)) from (q0q (cs := #[.int .i64 0]) (cs' := #[.int .i64 0]) (q0n (q0n (q0n (q0n (q0n (q0n X8.out (by show w.heap.size + 1 + 1 + 1 + 1 + 1 ≠ w.heap.size + 1 + 1 + 1; omega) _) (by show w.heap.size + 1 + 1 + 1 + 1 + 1 ≠ w.heap.size + 1 + 1 + 1; omega) _) (by show w.heap.size + 1 + 1 + 1 + 1 + 1 ≠ w.heap.size + 1 + 1 + 1; omega) _) (by show w.heap.size + 1 + 1 + 1 + 1 + 1 ≠ w.heap.size + 1 + 1 + 1; omega) _) (by show w.heap.size + 1 + 1 + 1 + 1 + 1 ≠ w.heap.size + 1 + 1 + 1; omega) _) (by show w.heap.size + 1 + 1 + 1 + 1 + 1 ≠ w.heap.size + 1 + 1 + 1 + 1; omega) _) 0 _ rfl))
  have r9 := (show Kd.R k51 51 (((((k3.setCell ⟨w.heap.size + 1 + 1 + 1, 0, none⟩ (.string ky)).setCell ⟨w.heap.size + 1 + 1 + 1, 1, none⟩ (.string nm)).setCell ⟨w.heap.size + 1 + 1 + 1, 2, none⟩ (.slice (some ad) ts.length c1)).setCell ⟨w.heap.size + 1 + 1 + 1, 3, none⟩ (.int .i64 0)).setCell ⟨w.heap.size + 1 + 1 + 1, 4, none⟩ (.slice (some ⟨gr, 0, none⟩) ys.length c9)) w.heap.size (fun _ => True) (.slice (some ⟨gr, 0, none⟩) ys.length c9) (ys.set x.val p.1) from (Kd.R_set (Kd.R_set (Kd.R_set (Kd.R_set (Kd.R_set XR.out X6.out (by decide) 0 _) (q0q (cs := #[(.string (⟨#[]⟩ : ByteArray)), (.string (⟨#[]⟩ : ByteArray)), (.slice none 0 0), (.int .i64 0), (.slice none 0 0)]) (cs' := #[(.string ky), (.string (⟨#[]⟩ : ByteArray)), (.slice none 0 0), (.int .i64 0), (.slice none 0 0)]) X6.out 0 _ rfl) (by decide) 1 _) (q0q (cs := #[(.string ky), (.string (⟨#[]⟩ : ByteArray)), (.slice none 0 0), (.int .i64 0), (.slice none 0 0)]) (cs' := #[(.string ky), (.string nm), (.slice none 0 0), (.int .i64 0), (.slice none 0 0)]) (q0q (cs := #[(.string (⟨#[]⟩ : ByteArray)), (.string (⟨#[]⟩ : ByteArray)), (.slice none 0 0), (.int .i64 0), (.slice none 0 0)]) (cs' := #[(.string ky), (.string (⟨#[]⟩ : ByteArray)), (.slice none 0 0), (.int .i64 0), (.slice none 0 0)]) X6.out 0 _ rfl) 1 _ rfl) (by decide) 2 _) (q0q (cs := #[(.string ky), (.string nm), (.slice none 0 0), (.int .i64 0), (.slice none 0 0)]) (cs' := #[(.string ky), (.string nm), (.slice (some ad) ts.length c1), (.int .i64 0), (.slice none 0 0)]) (q0q (cs := #[(.string ky), (.string (⟨#[]⟩ : ByteArray)), (.slice none 0 0), (.int .i64 0), (.slice none 0 0)]) (cs' := #[(.string ky), (.string nm), (.slice none 0 0), (.int .i64 0), (.slice none 0 0)]) (q0q (cs := #[(.string (⟨#[]⟩ : ByteArray)), (.string (⟨#[]⟩ : ByteArray)), (.slice none 0 0), (.int .i64 0), (.slice none 0 0)]) (cs' := #[(.string ky), (.string (⟨#[]⟩ : ByteArray)), (.slice none 0 0), (.int .i64 0), (.slice none 0 0)]) X6.out 0 _ rfl) 1 _ rfl) 2 _ rfl) (by decide) 3 _) (q0q (cs := #[(.string ky), (.string nm), (.slice (some ad) ts.length c1), (.int .i64 0), (.slice none 0 0)]) (cs' := #[(.string ky), (.string nm), (.slice (some ad) ts.length c1), (.int .i64 0), (.slice none 0 0)]) (q0q (cs := #[(.string ky), (.string nm), (.slice none 0 0), (.int .i64 0), (.slice none 0 0)]) (cs' := #[(.string ky), (.string nm), (.slice (some ad) ts.length c1), (.int .i64 0), (.slice none 0 0)]) (q0q (cs := #[(.string ky), (.string (⟨#[]⟩ : ByteArray)), (.slice none 0 0), (.int .i64 0), (.slice none 0 0)]) (cs' := #[(.string ky), (.string nm), (.slice none 0 0), (.int .i64 0), (.slice none 0 0)]) (q0q (cs := #[(.string (⟨#[]⟩ : ByteArray)), (.string (⟨#[]⟩ : ByteArray)), (.slice none 0 0), (.int .i64 0), (.slice none 0 0)]) (cs' := #[(.string ky), (.string (⟨#[]⟩ : ByteArray)), (.slice none 0 0), (.int .i64 0), (.slice none 0 0)]) X6.out 0 _ rfl) 1 _ rfl) 2 _ rfl) 3 _ rfl) (by decide) 4 _))
  have s0 := (show Kd.R k51 51 ((((((k3.setCell ⟨w.heap.size + 1 + 1 + 1, 0, none⟩ (.string ky)).setCell ⟨w.heap.size + 1 + 1 + 1, 1, none⟩ (.string nm)).setCell ⟨w.heap.size + 1 + 1 + 1, 2, none⟩ (.slice (some ad) ts.length c1)).setCell ⟨w.heap.size + 1 + 1 + 1, 3, none⟩ (.int .i64 0)).setCell ⟨w.heap.size + 1 + 1 + 1, 4, none⟩ (.slice (some ⟨gr, 0, none⟩) ys.length c9)).setCell ⟨w.heap.size + 1 + 1 + 1 + 1, 0, none⟩ (.int .i64 ((x.val : Nat) : Int))) w.heap.size (fun _ => True) (.slice (some ⟨gr, 0, none⟩) ys.length c9) (ys.set x.val p.1) from Kd.R_set r9 (q0n (q0n (q0n (q0n (q0n X7.out (by show w.heap.size + 1 + 1 + 1 + 1 ≠ w.heap.size + 1 + 1 + 1; omega) _) (by show w.heap.size + 1 + 1 + 1 + 1 ≠ w.heap.size + 1 + 1 + 1; omega) _) (by show w.heap.size + 1 + 1 + 1 + 1 ≠ w.heap.size + 1 + 1 + 1; omega) _) (by show w.heap.size + 1 + 1 + 1 + 1 ≠ w.heap.size + 1 + 1 + 1; omega) _) (by show w.heap.size + 1 + 1 + 1 + 1 ≠ w.heap.size + 1 + 1 + 1; omega) _) (by decide) 0 _)
  have s1 := (show Kd.R k51 51 (((((((k3.setCell ⟨w.heap.size + 1 + 1 + 1, 0, none⟩ (.string ky)).setCell ⟨w.heap.size + 1 + 1 + 1, 1, none⟩ (.string nm)).setCell ⟨w.heap.size + 1 + 1 + 1, 2, none⟩ (.slice (some ad) ts.length c1)).setCell ⟨w.heap.size + 1 + 1 + 1, 3, none⟩ (.int .i64 0)).setCell ⟨w.heap.size + 1 + 1 + 1, 4, none⟩ (.slice (some ⟨gr, 0, none⟩) ys.length c9)).setCell ⟨w.heap.size + 1 + 1 + 1 + 1, 0, none⟩ (.int .i64 ((x.val : Nat) : Int))).setCell ⟨w.heap.size + 1 + 1 + 1 + 1 + 1, 0, none⟩ (.int .i64 0)) w.heap.size (fun _ => True) (.slice (some ⟨gr, 0, none⟩) ys.length c9) (ys.set x.val p.1) from Kd.R_set s0 (q0n (q0n (q0n (q0n (q0n (q0n X8.out (by show w.heap.size + 1 + 1 + 1 + 1 + 1 ≠ w.heap.size + 1 + 1 + 1; omega) _) (by show w.heap.size + 1 + 1 + 1 + 1 + 1 ≠ w.heap.size + 1 + 1 + 1; omega) _) (by show w.heap.size + 1 + 1 + 1 + 1 + 1 ≠ w.heap.size + 1 + 1 + 1; omega) _) (by show w.heap.size + 1 + 1 + 1 + 1 + 1 ≠ w.heap.size + 1 + 1 + 1; omega) _) (by show w.heap.size + 1 + 1 + 1 + 1 + 1 ≠ w.heap.size + 1 + 1 + 1; omega) _) (by show w.heap.size + 1 + 1 + 1 + 1 + 1 ≠ w.heap.size + 1 + 1 + 1 + 1; omega) _) (by decide) 0 _)
  have FB := (show Below w.heap.size w (((((((k3.setCell ⟨w.heap.size + 1 + 1 + 1, 0, none⟩ (.string ky)).setCell ⟨w.heap.size + 1 + 1 + 1, 1, none⟩ (.string nm)).setCell ⟨w.heap.size + 1 + 1 + 1, 2, none⟩ (.slice (some ad) ts.length c1)).setCell ⟨w.heap.size + 1 + 1 + 1, 3, none⟩ (.int .i64 0)).setCell ⟨w.heap.size + 1 + 1 + 1, 4, none⟩ (.slice (some ⟨gr, 0, none⟩) ys.length c9)).setCell ⟨w.heap.size + 1 + 1 + 1 + 1, 0, none⟩ (.int .i64 ((x.val : Nat) : Int))).setCell ⟨w.heap.size + 1 + 1 + 1 + 1 + 1, 0, none⟩ (.int .i64 0)) from (q0o (q0o (q0o (q0o (q0o (q0o (q0o XB.out (by show w.heap.size ≤ w.heap.size + 1 + 1 + 1; omega)) (by show w.heap.size ≤ w.heap.size + 1 + 1 + 1; omega)) (by show w.heap.size ≤ w.heap.size + 1 + 1 + 1; omega)) (by show w.heap.size ≤ w.heap.size + 1 + 1 + 1; omega)) (by show w.heap.size ≤ w.heap.size + 1 + 1 + 1; omega)) (by show w.heap.size ≤ w.heap.size + 1 + 1 + 1 + 1; omega)) (by show w.heap.size ≤ w.heap.size + 1 + 1 + 1 + 1 + 1; omega)))
  have FK := (show KeepsFrom w5.heap.size W (((((((k3.setCell ⟨w.heap.size + 1 + 1 + 1, 0, none⟩ (.string ky)).setCell ⟨w.heap.size + 1 + 1 + 1, 1, none⟩ (.string nm)).setCell ⟨w.heap.size + 1 + 1 + 1, 2, none⟩ (.slice (some ad) ts.length c1)).setCell ⟨w.heap.size + 1 + 1 + 1, 3, none⟩ (.int .i64 0)).setCell ⟨w.heap.size + 1 + 1 + 1, 4, none⟩ (.slice (some ⟨gr, 0, none⟩) ys.length c9)).setCell ⟨w.heap.size + 1 + 1 + 1 + 1, 0, none⟩ (.int .i64 ((x.val : Nat) : Int))).setCell ⟨w.heap.size + 1 + 1 + 1 + 1 + 1, 0, none⟩ (.int .i64 0)) from (KeepsFrom.trans (KeepsFrom.trans (KeepsFrom.trans (KeepsFrom.trans (KeepsFrom.trans (KeepsFrom.trans (KeepsFrom.trans XK.out ((KeepsOthers.setCell _ _ _).from _)) ((KeepsOthers.setCell _ _ _).from _)) ((KeepsOthers.setCell _ _ _).from _)) ((KeepsOthers.setCell _ _ _).from _)) ((KeepsOthers.setCell _ _ _).from _)) ((KeepsOthers.setCell _ _ _).from _)) ((KeepsOthers.setCell _ _ _).from _)))
  exact ⟨FK, k8, x, p, rfl, m2.out, (by rw [p7.out, q1.out]; exact p6.out), n8.out, rfl, FB, (some ⟨gr, 0, none⟩), c9, F6, F7, F8, s1⟩
 case done =>
  rintro D ls W hD rfl ⟨⟨h3, h4, h5, h6, h7, h8⟩, hB, k6, hN⟩ hK
  have Z6 := am h6
  have Z7 := am h7
  have Z8 := am h8
  have h0 := am hB
  have p4 := am hK
  have hl := leaseL_skip k ts ys now a5 HG.out (List.finRange ys.length) [] (by rw [uptoF_all] at hN; exact hN)
  have o3 := p5.out
  rw [List.append_nil] at hl
  rw [hl] at o3
  obtain rfl : r = (192, 0, [], 0) := by simpa [leaseL] using o3.symm
  clear h3 h4 h5 h6 h7 h8 hB k6 hN hK hl o3
  obtain ⟨d0, d1, d2, d3, d4⟩ := ce5 Z6.out
  obtain ⟨j5, j6, j7, j8, j9⟩ := z5 Z6.out
  have q0 := ce1 Z7.out
  have k1 := z1 Z7.out
  have u0 := ce1 Z8.out
  have k2 := z1 Z8.out
  gi_wp2
  have E6 := am (show (((((((W.setCell ⟨w.heap.size + 1 + 1 + 1, 0, none⟩ (.string (⟨#[]⟩ : ByteArray))).setCell ⟨w.heap.size + 1 + 1 + 1, 1, none⟩ (.string (⟨#[]⟩ : ByteArray))).setCell ⟨w.heap.size + 1 + 1 + 1, 2, none⟩ (.slice none 0 0)).setCell ⟨w.heap.size + 1 + 1 + 1, 3, none⟩ (.int .i64 0)).setCell ⟨w.heap.size + 1 + 1 + 1, 4, none⟩ (.slice none 0 0)).setCell ⟨w.heap.size + 1 + 1 + 1 + 1, 0, none⟩ (.int .i64 0)).setCell ⟨w.heap.size + 1 + 1 + 1 + 1 + 1, 0, none⟩ (.int .i64 192)).heap[w.heap.size + 1 + 1 + 1]? = some (.cells (#[(.string (⟨#[]⟩ : ByteArray)), (.string (⟨#[]⟩ : ByteArray)), (.slice none 0 0), (.int .i64 0), (.slice none 0 0)] : Array Value) 27 (0, 0)) from (q0n (q0n (q0q (cs := #[(.string (⟨#[]⟩ : ByteArray)), (.string (⟨#[]⟩ : ByteArray)), (.slice none 0 0), (.int .i64 0), (.slice none 0 0)]) (cs' := #[(.string (⟨#[]⟩ : ByteArray)), (.string (⟨#[]⟩ : ByteArray)), (.slice none 0 0), (.int .i64 0), (.slice none 0 0)]) (q0q (cs := #[(.string (⟨#[]⟩ : ByteArray)), (.string (⟨#[]⟩ : ByteArray)), (.slice none 0 0), (.int .i64 0), (.slice none 0 0)]) (cs' := #[(.string (⟨#[]⟩ : ByteArray)), (.string (⟨#[]⟩ : ByteArray)), (.slice none 0 0), (.int .i64 0), (.slice none 0 0)]) (q0q (cs := #[(.string (⟨#[]⟩ : ByteArray)), (.string (⟨#[]⟩ : ByteArray)), (.slice none 0 0), (.int .i64 0), (.slice none 0 0)]) (cs' := #[(.string (⟨#[]⟩ : ByteArray)), (.string (⟨#[]⟩ : ByteArray)), (.slice none 0 0), (.int .i64 0), (.slice none 0 0)]) (q0q (cs := #[(.string (⟨#[]⟩ : ByteArray)), (.string (⟨#[]⟩ : ByteArray)), (.slice none 0 0), (.int .i64 0), (.slice none 0 0)]) (cs' := #[(.string (⟨#[]⟩ : ByteArray)), (.string (⟨#[]⟩ : ByteArray)), (.slice none 0 0), (.int .i64 0), (.slice none 0 0)]) (q0q (cs := #[(.string (⟨#[]⟩ : ByteArray)), (.string (⟨#[]⟩ : ByteArray)), (.slice none 0 0), (.int .i64 0), (.slice none 0 0)]) (cs' := #[(.string (⟨#[]⟩ : ByteArray)), (.string (⟨#[]⟩ : ByteArray)), (.slice none 0 0), (.int .i64 0), (.slice none 0 0)]) Z6.out 0 _ rfl) 1 _ rfl) 2 _ rfl) 3 _ rfl) 4 _ rfl) (by show w.heap.size + 1 + 1 + 1 ≠ w.heap.size + 1 + 1 + 1 + 1; omega) _) (by show w.heap.size + 1 + 1 + 1 ≠ w.heap.size + 1 + 1 + 1 + 1 + 1; omega) _))
  have E7 := am (show (((((((W.setCell ⟨w.heap.size + 1 + 1 + 1, 0, none⟩ (.string (⟨#[]⟩ : ByteArray))).setCell ⟨w.heap.size + 1 + 1 + 1, 1, none⟩ (.string (⟨#[]⟩ : ByteArray))).setCell ⟨w.heap.size + 1 + 1 + 1, 2, none⟩ (.slice none 0 0)).setCell ⟨w.heap.size + 1 + 1 + 1, 3, none⟩ (.int .i64 0)).setCell ⟨w.heap.size + 1 + 1 + 1, 4, none⟩ (.slice none 0 0)).setCell ⟨w.heap.size + 1 + 1 + 1 + 1, 0, none⟩ (.int .i64 0)).setCell ⟨w.heap.size + 1 + 1 + 1 + 1 + 1, 0, none⟩ (.int .i64 192)).heap[w.heap.size + 1 + 1 + 1 + 1]? = some (.cells (#[(.int .i64 0)] : Array Value) 3 (0, 0)) from (q0n (q0q (cs := #[.int .i64 0]) (cs' := #[.int .i64 0]) (q0n (q0n (q0n (q0n (q0n Z7.out (by show w.heap.size + 1 + 1 + 1 + 1 ≠ w.heap.size + 1 + 1 + 1; omega) _) (by show w.heap.size + 1 + 1 + 1 + 1 ≠ w.heap.size + 1 + 1 + 1; omega) _) (by show w.heap.size + 1 + 1 + 1 + 1 ≠ w.heap.size + 1 + 1 + 1; omega) _) (by show w.heap.size + 1 + 1 + 1 + 1 ≠ w.heap.size + 1 + 1 + 1; omega) _) (by show w.heap.size + 1 + 1 + 1 + 1 ≠ w.heap.size + 1 + 1 + 1; omega) _) 0 _ rfl) (by show w.heap.size + 1 + 1 + 1 + 1 ≠ w.heap.size + 1 + 1 + 1 + 1 + 1; omega) _))
  have E8 := am (show (((((((W.setCell ⟨w.heap.size + 1 + 1 + 1, 0, none⟩ (.string (⟨#[]⟩ : ByteArray))).setCell ⟨w.heap.size + 1 + 1 + 1, 1, none⟩ (.string (⟨#[]⟩ : ByteArray))).setCell ⟨w.heap.size + 1 + 1 + 1, 2, none⟩ (.slice none 0 0)).setCell ⟨w.heap.size + 1 + 1 + 1, 3, none⟩ (.int .i64 0)).setCell ⟨w.heap.size + 1 + 1 + 1, 4, none⟩ (.slice none 0 0)).setCell ⟨w.heap.size + 1 + 1 + 1 + 1, 0, none⟩ (.int .i64 0)).setCell ⟨w.heap.size + 1 + 1 + 1 + 1 + 1, 0, none⟩ (.int .i64 192)).heap[w.heap.size + 1 + 1 + 1 + 1 + 1]? = some (.cells (#[(.int .i64 192)] : Array Value) 29 (0, 0)) from (q0q (cs := #[.int .i64 0]) (cs' := #[.int .i64 192]) (q0n (q0n (q0n (q0n (q0n (q0n Z8.out (by show w.heap.size + 1 + 1 + 1 + 1 + 1 ≠ w.heap.size + 1 + 1 + 1; omega) _) (by show w.heap.size + 1 + 1 + 1 + 1 + 1 ≠ w.heap.size + 1 + 1 + 1; omega) _) (by show w.heap.size + 1 + 1 + 1 + 1 + 1 ≠ w.heap.size + 1 + 1 + 1; omega) _) (by show w.heap.size + 1 + 1 + 1 + 1 + 1 ≠ w.heap.size + 1 + 1 + 1; omega) _) (by show w.heap.size + 1 + 1 + 1 + 1 + 1 ≠ w.heap.size + 1 + 1 + 1; omega) _) (by show w.heap.size + 1 + 1 + 1 + 1 + 1 ≠ w.heap.size + 1 + 1 + 1 + 1; omega) _) 0 _ rfl))
  have EB := am (show Below w.heap.size w (((((((W.setCell ⟨w.heap.size + 1 + 1 + 1, 0, none⟩ (.string (⟨#[]⟩ : ByteArray))).setCell ⟨w.heap.size + 1 + 1 + 1, 1, none⟩ (.string (⟨#[]⟩ : ByteArray))).setCell ⟨w.heap.size + 1 + 1 + 1, 2, none⟩ (.slice none 0 0)).setCell ⟨w.heap.size + 1 + 1 + 1, 3, none⟩ (.int .i64 0)).setCell ⟨w.heap.size + 1 + 1 + 1, 4, none⟩ (.slice none 0 0)).setCell ⟨w.heap.size + 1 + 1 + 1 + 1, 0, none⟩ (.int .i64 0)).setCell ⟨w.heap.size + 1 + 1 + 1 + 1 + 1, 0, none⟩ (.int .i64 192)) from (q0o (q0o (q0o (q0o (q0o (q0o (q0o h0.out (by show w.heap.size ≤ w.heap.size + 1 + 1 + 1; omega)) (by show w.heap.size ≤ w.heap.size + 1 + 1 + 1; omega)) (by show w.heap.size ≤ w.heap.size + 1 + 1 + 1; omega)) (by show w.heap.size ≤ w.heap.size + 1 + 1 + 1; omega)) (by show w.heap.size ≤ w.heap.size + 1 + 1 + 1; omega)) (by show w.heap.size ≤ w.heap.size + 1 + 1 + 1 + 1; omega)) (by show w.heap.size ≤ w.heap.size + 1 + 1 + 1 + 1 + 1; omega)))
  have EK := am (show (((((((W.setCell ⟨w.heap.size + 1 + 1 + 1, 0, none⟩ (.string (⟨#[]⟩ : ByteArray))).setCell ⟨w.heap.size + 1 + 1 + 1, 1, none⟩ (.string (⟨#[]⟩ : ByteArray))).setCell ⟨w.heap.size + 1 + 1 + 1, 2, none⟩ (.slice none 0 0)).setCell ⟨w.heap.size + 1 + 1 + 1, 3, none⟩ (.int .i64 0)).setCell ⟨w.heap.size + 1 + 1 + 1, 4, none⟩ (.slice none 0 0)).setCell ⟨w.heap.size + 1 + 1 + 1 + 1, 0, none⟩ (.int .i64 0)).setCell ⟨w.heap.size + 1 + 1 + 1 + 1 + 1, 0, none⟩ (.int .i64 192)).heap[D]? = some (.deferred (some [])) from ((Below.heap_setCell _ _ _ D (by show D ≠ w.heap.size + 1 + 1 + 1 + 1 + 1; have h_ := HS.out; omega)).trans ((Below.heap_setCell _ _ _ D (by show D ≠ w.heap.size + 1 + 1 + 1 + 1; have h_ := HS.out; omega)).trans ((Below.heap_setCell _ _ _ D (by show D ≠ w.heap.size + 1 + 1 + 1; have h_ := HS.out; omega)).trans ((Below.heap_setCell _ _ _ D (by show D ≠ w.heap.size + 1 + 1 + 1; have h_ := HS.out; omega)).trans ((Below.heap_setCell _ _ _ D (by show D ≠ w.heap.size + 1 + 1 + 1; have h_ := HS.out; omega)).trans ((Below.heap_setCell _ _ _ D (by show D ≠ w.heap.size + 1 + 1 + 1; have h_ := HS.out; omega)).trans ((Below.heap_setCell _ _ _ D (by show D ≠ w.heap.size + 1 + 1 + 1; have h_ := HS.out; omega)).trans p4.out))))))))
  clear p4
  generalize (((((((W.setCell ⟨w.heap.size + 1 + 1 + 1, 0, none⟩ (.string (⟨#[]⟩ : ByteArray))).setCell ⟨w.heap.size + 1 + 1 + 1, 1, none⟩ (.string (⟨#[]⟩ : ByteArray))).setCell ⟨w.heap.size + 1 + 1 + 1, 2, none⟩ (.slice none 0 0)).setCell ⟨w.heap.size + 1 + 1 + 1, 3, none⟩ (.int .i64 0)).setCell ⟨w.heap.size + 1 + 1 + 1, 4, none⟩ (.slice none 0 0)).setCell ⟨w.heap.size + 1 + 1 + 1 + 1, 0, none⟩ (.int .i64 0)).setCell ⟨w.heap.size + 1 + 1 + 1 + 1 + 1, 0, none⟩ (.int .i64 192)) = wE at *
  refine ⟨by simp, .inl ⟨_, _, rfl, run_takeDeferred EK.out, ?_⟩⟩
  have P6 : (wE.putObj D (.deferred none)).heap[w.heap.size + 1 + 1 + 1]? = some (.cells (#[(.string (⟨#[]⟩ : ByteArray)), (.string (⟨#[]⟩ : ByteArray)), (.slice none 0 0), (.int .i64 0), (.slice none 0 0)] : Array Value) 27 (0, 0)) := (World.putObj_heap_other (by have h_ := HS.out; omega)).trans E6.out
  have P7 : (wE.putObj D (.deferred none)).heap[w.heap.size + 1 + 1 + 1 + 1]? = some (.cells (#[(.int .i64 0)] : Array Value) 3 (0, 0)) := (World.putObj_heap_other (by have h_ := HS.out; omega)).trans E7.out
  have P8 : (wE.putObj D (.deferred none)).heap[w.heap.size + 1 + 1 + 1 + 1 + 1]? = some (.cells (#[(.int .i64 192)] : Array Value) 29 (0, 0)) := (World.putObj_heap_other (by have h_ := HS.out; omega)).trans E8.out
  exact ⟨_, q2y rfl _ _ (w.heap.size + 1 + 1 + 1) (w.heap.size + 1 + 1 + 1 + 1) (w.heap.size + 1 + 1 + 1 + 1 + 1) 27 (#[(.string (⟨#[]⟩ : ByteArray)), (.string (⟨#[]⟩ : ByteArray)), (.slice none 0 0), (.int .i64 0), (.slice none 0 0)] : Array Value) (0, 0) _ (.int .i64 0) (.int .i64 192) rfl P6 Try.underlying27 rfl (by kernel_rfl) rfl (load3 _ _ _ (bc P7)) rfl (load29 _ _ _ (bc P8)), .inr ⟨by decide, rfl⟩, EB.out.trans (belowK_b (w := w) (Nat.le_refl _) wE D _ _ (by have := HS.out; omega) EK.out rfl rfl)⟩
 case stop =>
  rintro D c k8 W hD ⟨kk, w2, l5⟩ ⟨i0, x, p, e1, e2, e3, e4, rfl, e6, Aq, cq, h3, h4, h5, h6⟩ hK
  have hl := p5.out
  rw [← List.take_append_drop kk (List.finRange ys.length)] at hl
  have r5 : (List.finRange ys.length).take kk = i0 ++ [x] := l5.symm.trans e1
  rw [r5, List.append_assoc, leaseL_skip k ts ys now a5 HG.out i0 _ e2, List.singleton_append, leaseL, e3, Option.bind_some, if_pos e4] at hl
  obtain rfl : r = (0, 0, ys.set x.val p.1, (x.val : Int)) := (Option.some.inj hl).symm
  have EB := am e6
  have EK := am hK
  have E6 := am h3
  have E7 := am h4
  have E8 := am h5
  have ER := am h6
  clear hK l5 r5 e1 e2 e3 e4 e6 h3 h4 h5 h6 hl
  generalize W = wE at *
  gi_wp2
  refine ⟨by simp, .inl ⟨_, _, rfl, run_takeDeferred EK.out, ?_⟩⟩
  have P6 : (wE.putObj D (.deferred none)).heap[w.heap.size + 1 + 1 + 1]? = some (.cells (#[(.string ky), (.string nm), (.slice A1 ts.length c1), (.int .i64 0), (.slice Aq ys.length cq)] : Array Value) 27 (0, 0)) := (World.putObj_heap_other (by have h_ := HS.out; omega)).trans E6.out
  have P7 : (wE.putObj D (.deferred none)).heap[w.heap.size + 1 + 1 + 1 + 1]? = some (.cells (#[(.int .i64 ((x.val : Nat) : Int))] : Array Value) 3 (0, 0)) := (World.putObj_heap_other (by have h_ := HS.out; omega)).trans E7.out
  have P8 : (wE.putObj D (.deferred none)).heap[w.heap.size + 1 + 1 + 1 + 1 + 1]? = some (.cells (#[(.int .i64 0)] : Array Value) 29 (0, 0)) := (World.putObj_heap_other (by have h_ := HS.out; omega)).trans E8.out
  exact ⟨_, q2y rfl _ _ (w.heap.size + 1 + 1 + 1) (w.heap.size + 1 + 1 + 1 + 1) (w.heap.size + 1 + 1 + 1 + 1 + 1) 27 (#[(.string ky), (.string nm), (.slice A1 ts.length c1), (.int .i64 0), (.slice Aq ys.length cq)] : Array Value) (0, 0) _ (.int .i64 ((x.val : Nat) : Int)) (.int .i64 0) rfl P6 Try.underlying27 rfl (by kernel_rfl) rfl (load3 _ _ _ (bc P7)) rfl (load29 _ _ _ (bc P8)), .inl ⟨rfl, _, rfl, q1k.own (own_R ER.out (grownBy_putObj' wE D _) (fun r_ e_ => by cases e_; exact ⟨_, EK.out, rfl⟩))⟩, EB.out.trans (belowK_b (w := w) (Nat.le_refl _) wE D _ _ (by have := HS.out; omega) EK.out rfl rfl)⟩
namespace X
theorem Gp.calls (k : Nat) (b0 b1 : ByteArray) (a0 : Nat → Prop) (a8 : Option Addr) (b3 : Nat) (a4 : List S49) (b2 : Int) (a3 : Nat → Prop) (a9 : Option Addr) (b4 : Nat) (a5 : List S51) (a1 a2 : Int) (r1 r2 : ByteArray) (r3 : List S49) (r4 : Int) (r5 : List S51) (r6 r7 : Int) (w : World) (a6 : Kd.V k49 49 w w.heap.size (fun k_ => a0 k_) (.slice a8 a4.length b3) a4) (a7 : Kd.V k51 51 w w.heap.size (fun k_ => a3 k_) (.slice a9 a5.length b4) a5) (h : Gp.f k b0 b1 a4 b2 a5 a1 a2 = some (r1, r2, r3, r4, r5, r6, r7)) :
  Calls Try.prog 23 #[.agg #[.string b0, .string b1, .slice a8 a4.length b3, .int .i64 b2, .slice a9 a5.length b4], .int .i64 a1, .int .i64 a2] w fun e w' => ∃ b5 b6 : Value, e = .returned (.tuple #[.agg #[.string r1, .string r2, b5, .int .i64 r4, b6], .int .i64 r6, .int .i64 r7]) ∧ Kd.V k49 49 w' w.heap.size (fun k_ => ((a0 k_ ∨ a3 k_) ∨ w.heap.size ≤ k_)) b5 r3 ∧ Kd.V k51 51 w' w.heap.size (fun k_ => ((a0 k_ ∨ a3 k_) ∨ w.heap.size ≤ k_)) b6 r5 ∧ Below w.heap.size w w' := by
 obtain ⟨p, hp, h⟩ := Option.bind_eq_some_iff.1 h
 obtain ⟨_, b8, b7⟩ := Kd.V_reads' a6
 refine (lease_calls k b0 b1 a8 b3 a4 b2 a9 b4 a5 a1 a2 p w b7 b8 (Kd.V_reads' a7).2.2 hp).mono ?_
 rintro e w' ⟨h1, hb⟩
 have hr := Option.some.inj h
 rcases h1 with ⟨h0, v, rfl, ho⟩ | ⟨h0, rfl⟩
 ·
  rw [if_pos h0] at hr
  cases hr
  exact ⟨_, v, rfl, Kd.V_mono (Kd.V_below a6 hb) (fun k hk => .inl (.inl hk)), Kd.V_mono (ho.V hb a7) (fun k hk => hk.imp Or.inr id), hb⟩
 rw [if_neg h0] at hr
 cases hr
 exact ⟨_, _, rfl, Kd.V_nil _ _ _ _ _, Kd.V_nil _ _ _ _ _, hb⟩
end X
end Go.Proofs.Ytabmkighhmchmaa
