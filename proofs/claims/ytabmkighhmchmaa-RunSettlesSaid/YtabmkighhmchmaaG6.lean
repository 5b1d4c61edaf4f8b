/- Words and walks for the law RunSettles, joined and made small by a program of mine. -/
import Derived.Test.YtabmkighhmchmaaG4
import Derived.LoopTactic
import Derived.Outline
import Derived.BigRegion
import Derived.Test.YtabmkighhmchmaaG2
import Derived.Test.YtabmkighhmchmaaG5
import Derived.Test.YtabmkighhmchmaaG3
namespace Go.Proofs.Ytabmkighhmchmaa
open Go.RowKit Go.YW.PrintWords Go.YW.PrintLast Go.YW.PrintMore Go.YW.Sq
open X (S49 S51 k49 k51 q0e q1q z49 k49_open k49_mk)
theorem min2_mn (k k' : IntKind) (x y : Int) : Builtin.min2 (.int k x) (.int k' y) = pure (.int k (mn x y)) := by simp only [Builtin.min2, mn]
attribute [local go_sem] min2_mn q1f
set_option linter.unusedVariables false
def cutT (t : S49) : S49 := ⟨t.f0.take 20, t.f1, t.f2, t.f3⟩
def few20 (q : Nat) (l : List S49) : List S49 := (l.take q).map cutT ++ l.drop q
def X.F5.f (k : Nat) (a0 a1 : ByteArray) (a3 : List S49) (a2 : Int) (a4 : List S51) : Option (ByteArray × ByteArray × List S49 × Int × List S51) := some (a0, a1, (a3.take 20).map cutT, a2, a4.take 20)
theorem few20_zero (l : List S49) : few20 0 l = l := by simp [few20]
theorem few20_all (l : List S49) : few20 l.length l = l.map cutT := by simp [few20]
theorem few20_len (q : Nat) (l : List S49) (h : q ≤ l.length) : (few20 q l).length = l.length := by simp [few20]; omega
theorem few20_at (q : Nat) (l : List S49) (h : q < l.length) : (few20 q l).getD q z49 = l[q] := by
 unfold few20
 rw [List.getD_eq_getElem?_getD, List.getElem?_append_right (by simp; omega)]
 simp
 rw [Nat.min_eq_left (by omega), Nat.sub_self, Nat.add_zero, List.getElem?_eq_getElem h]
 rfl
theorem few20_set (q : Nat) (l : List S49) (h : q < l.length) : (few20 q l).set q (cutT l[q]) = few20 (q + 1) l := by
 unfold few20
 rw [List.set_append_right _ _ (by simp; omega), List.length_map, List.length_take, Nat.min_eq_left (by omega), Nat.sub_self, List.drop_eq_getElem_cons h, List.set_cons_zero, List.take_succ_eq_append_getElem h, List.map_append, List.append_assoc]
 rfl
set_option maxHeartbeats 4000000 in
set_option maxRecDepth 100000 in
theorem few_calls (ky nm : ByteArray) (P2 : Nat → Prop) (A0 : Option Addr) (c0 : Nat) (l0 : List S49) (is : Int) (P4 : Nat → Prop) (A4 : Option Addr) (c4 : Nat) (l4 : List S51) (r2 : List S49) (w : World) (e2 : (l0.take 20).map cutT = r2) (e3 : Kd.V k49 49 w w.heap.size (fun k_ => P2 k_) (.slice A0 l0.length c0) l0) (e4 : Kd.V k51 51 w w.heap.size (fun k_ => P4 k_) (.slice A4 l4.length c4) l4) :
  Calls Try.prog 9 #[.agg #[.string ky, .string nm, .slice A0 l0.length c0, .int .i64 is, .slice A4 l4.length c4]] w fun e w' => ∃ e9 f4 : Value, e = .returned (.agg #[.string ky, .string nm, e9, .int .i64 is, f4]) ∧ Kd.V k49 49 w' w.heap.size (fun k_ => ((P2 k_ ∨ P4 k_) ∨ w.heap.size ≤ k_)) e9 r2 ∧ Kd.V k51 51 w' w.heap.size (fun k_ => ((P2 k_ ∨ P4 k_) ∨ w.heap.size ≤ k_)) f4 (l4.take 20) ∧ Below w.heap.size w w' := by
 have i6 := Try.underlying27
 have i4 := Try.underlying24
 have i5 := Try.underlying25
 have i3 := Try.underlying22
 have i8 := Try.underlying49
 have i7 := Try.underlying47
 have d1 := am e2
 obtain ⟨_, d4, d7⟩ := Kd.V_at e3
 obtain ⟨_, d5, d8⟩ := Kd.V_at e4
 have HF := am (Kd.F_bound d7)
 have f8 := am d8
 have HW := am (Nat.le_refl w.heap.size)
 have HC := am d4
 have f7 := am d5
 have HB := am (Below.refl w.heap.size w)
 clear e2 e3 e4 d4 d5 d7 d8
 go_enter Try.func9, Try.ntmps9
 go_upto_region 1 with (first | ((with_reducible refine q3b (N := 1) rfl ?_); refine q2p ?hg (N := 1) ?hd (cs := #[.string ky, .string nm, .slice A0 l0.length c0, .int .i64 is, .slice A4 l4.length c4]) (t := 27) ?hr ?_; (case hd => rfl); (case hg => rfl); (case hr => first | (go_simp; done) | (go_simp; rfl)); intro g1 hg w1 a2 hb; have G1 := am (show w.heap.size ≤ g1 by rw [hg]; exact q0p (by repeat (first | (with_reducible first | exact HB.out | apply q0d | apply q0m | apply q0a) | exact HB.out))); have NB := am (q0j (by repeat (first | (with_reducible first | exact HB.out | apply q0d | apply q0m | apply q0a) | exact HB.out)) hb); clear HB; have HB := NB; have B1 := am a2; clear NB hb a2 hg) | ((with_reducible refine q3b (N := 2) rfl ?_); refine q2p ?hg (N := 2) ?hd (cs := #[(.string (⟨#[]⟩ : ByteArray)), (.string (⟨#[]⟩ : ByteArray)), (.slice none 0 0), (.int .i64 0), (.slice none 0 0)]) (t := 27) ?hr ?_; (case hd => rfl); (case hg => rfl); (case hr => first | (go_simp; done) | (go_simp; rfl)); intro g2 hg w2 a2 hb; have G2 := am (show w.heap.size ≤ g2 by rw [hg]; exact q0p (by repeat (first | (with_reducible first | exact HB.out | apply q0d | apply q0m | apply q0a) | exact HB.out))); have X1 := am (q0b (o := .cells #[.string ky, .string nm, .slice A0 l0.length c0, .int .i64 is, .slice A4 l4.length c4] 27 (0, 0)) (by (with_reducible repeat (first | refine q0r ?_ _ | refine q0g ?_ | refine q0h ?_ _)); exact B1.out) hb); have b2 := am (show g1 ≠ g2 by rw [hg]; exact Nat.ne_of_lt (q2h (o := .cells #[.string ky, .string nm, .slice A0 l0.length c0, .int .i64 is, .slice A4 l4.length c4] 27 (0, 0)) (by (with_reducible repeat (first | refine q0r ?_ _ | refine q0g ?_ | refine q0h ?_ _)); exact B1.out))); have NB := am (q0j (by repeat (first | (with_reducible first | exact HB.out | apply q0d | apply q0m | apply q0a) | exact HB.out)) hb); clear HB B1; have HB := NB; have B1 := X1; have B2 := am a2; clear NB X1 hb a2 hg; have f5 := am (q2h B1.out); have f6 := am (q2h B2.out); have a3 : w2.cell? ⟨g1, 2, none⟩ = some (.slice A0 l0.length c0) := bc B1.out))
 have p1 : (0 : Int) ≤ mn (l0.length : Int) 20 := by unfold mn; split <;> omega
 have p2 : mn (l0.length : Int) 20 ≤ (c0 : Int) := by have := HC.out; unfold mn; split <;> omega
 have HM : q0f ((mn (l0.length : Int) 20).toNat ≤ 20 ∧ (mn (l0.length : Int) 20).toNat ≤ l0.length ∧ (mn (l0.length : Int) 20).toNat = min l0.length 20) := ⟨by unfold mn; split <;> omega⟩
 have d0 : q0f ((l0.take (mn (l0.length : Int) 20).toNat).length = (mn (l0.length : Int) 20).toNat) := ⟨by rw [List.length_take]; have := HM.out; omega⟩
 go_upto_region 2 with (first | ((with_reducible refine q3b (N := 5) rfl ?_); refine Kd.N_lit k49 (w0 := w) w.heap.size 49 ?hg (N' := 5) ?hd (xs := ([] : List S49)) (inner := []) (ok := (fun k_ => ((P2 k_ ∧ k_ < w.heap.size) ∨ w2.heap.size ≤ k_))) (okp := fun _ => False) ?hr ?hp (fun _ hk => hk.elim) (Or.inr (Nat.le_refl _)) (by repeat (first | (with_reducible first | exact HB.out | apply q0d | apply q0m | apply q0a) | exact HB.out)) (q0p (by repeat (first | (with_reducible first | exact HB.out | apply q0d | apply q0m | apply q0a) | exact HB.out))) (by simp) ?_; (case hd => rfl); (case hg => rfl); (case hr => first | (go_simp; done) | (go_simp; rfl)); (case hp => exact (Reps.none _ _)); intro v5 w3 ho hb hg b4; have a7 := hg.size; obtain ⟨A5, cc5, e5⟩ : ∃ A c, v5 = .slice A 0 c := Kd.N_slice ho; subst e5; have X1 := am (q2y (o := .cells #[.string ky, .string nm, .slice A0 l0.length c0, .int .i64 is, .slice A4 l4.length c4] 27 (0, 0)) (by (with_reducible repeat (first | refine q0r ?_ _ | refine q0g ?_ | refine q0h ?_ _)); exact B1.out) hg (by simp)); have X2 := am (q2y (o := .cells #[(.string (⟨#[]⟩ : ByteArray)), (.string (⟨#[]⟩ : ByteArray)), (.slice none 0 0), (.int .i64 0), (.slice none 0 0)] 27 (0, 0)) (by (with_reducible repeat (first | refine q0r ?_ _ | refine q0g ?_ | refine q0h ?_ _)); exact B2.out) hg (by simp)); have X5 := am ho; clear B1 B2 HB; have B1 := X1; have B2 := X2; have H5 := X5; have HB := am hb; have HG := am a7; clear X1 X2 X5 ho hb hg b4 a7; have a3 : w3.cell? ⟨g1, 2, none⟩ = some (.slice A0 l0.length c0) := bc B1.out) | ((with_reducible refine q3o (b := .append) (xs := #[.tmp 5, .tmp 14]) rfl ?_); at_builtin; refine Kd.N_append_rows k49 (w0 := w) w.heap.size rfl (.tmp 5) (.tmp 14) 22 49 (.agg #[.slice none 0 0, .int .i64 0, .int .i64 0, .int .i64 0]) 48 rfl Try.underlying22 X.info49 rfl (by decide) (by omega) (.slice A5 0 cc5) [] (l0.take (mn (l0.length : Int) 20).toNat) A0 (mn (l0.length : Int) 20).toNat c0 (fun k_ => ((P2 k_ ∧ k_ < w.heap.size) ∨ w2.heap.size ≤ k_)) (fun k => P2 k ∧ k < w.heap.size) rfl rfl ?aO ?aR ?aK ?aF ?aB ?aS ?aL ?_; (case aO => exact (by (with_reducible repeat (first | apply Kd.N_alloc | apply Kd.N_drewN | apply Kd.N_drew)); exact H5.out)); (case aR => have d9 := Kd.F_take HF.out (m := (mn (l0.length : Int) 20).toNat) (by have := HM.out; omega); rw [d0.out] at d9; exact Kd.F_below d9 HB.out); (case aK => intro k_ a0; refine ⟨Or.inl a0, fun he => ?_⟩; have a1 := Kd.N_base H5.out k_ he.symm; have a5 := HW.out; omega); (case aF => intro k_ a0; exact Or.inr (Nat.le_trans HG.out a0)); (case aB => exact (by repeat (first | (with_reducible first | exact HB.out | apply q0d | apply q0m | apply q0a) | exact HB.out))); (case aS => exact (q0p (by repeat (first | (with_reducible first | exact HB.out | apply q0d | apply q0m | apply q0a) | exact HB.out)))); (case aL => have := HM.out; simp; omega); intro v6 w6 ho hb hg b4; rw [List.nil_append] at ho; obtain ⟨A6, n6, cc6, e6⟩ : ∃ A n c, v6 = .slice A n c := (Kd.N_slice ho).elim fun A h => h.elim fun c h => ⟨A, _, c, h⟩; subst e6; have X1 := am (q2y (g := g1) (o := .cells #[.string ky, .string nm, .slice A0 l0.length c0, .int .i64 is, .slice A4 l4.length c4] 27 (0, 0)) (by (with_reducible repeat (first | refine q0r ?_ _ | refine q0g ?_ | refine q0h ?_ _)); exact B1.out) hg (Kd.N_ne H5.out B1.out (by decide))); have X2 := am (q2y (g := g2) (o := .cells #[(.string (⟨#[]⟩ : ByteArray)), (.string (⟨#[]⟩ : ByteArray)), (.slice none 0 0), (.int .i64 0), (.slice none 0 0)] 27 (0, 0)) (by (with_reducible repeat (first | refine q0r ?_ _ | refine q0g ?_ | refine q0h ?_ _)); exact B2.out) hg (Kd.N_ne H5.out B2.out (by decide))); have XO := am ho; have XB := am hb; clear ho hb hg b4 B1 B2 H5 HB; have B1 := X1; have B2 := X2; have H6 := XO; have HB := XB; clear X1 X2 XO XB; have a3 : w6.cell? ⟨g1, 2, none⟩ = some (.slice A0 l0.length c0) := bc B1.out; have h6 := q0k B1.out 2))
 have b1 := am (show g1 < w2.heap.size ∧ g2 < w2.heap.size from ⟨f5.out, f6.out⟩)
 have X1 := am (show (w6.setCell ⟨g1, 2, none⟩ (.slice A6 n6 cc6)).heap[g1]? = some (.cells #[.string ky, .string nm, .slice A6 n6 cc6, .int .i64 is, .slice A4 l4.length c4] 27 (0, 0)) from q0o (cs := #[.string ky, .string nm, .slice A0 l0.length c0, .int .i64 is, .slice A4 l4.length c4]) B1.out 2 _ rfl)
 have X2 := am (show (w6.setCell ⟨g1, 2, none⟩ (.slice A6 n6 cc6)).heap[g2]? = some (.cells #[(.string (⟨#[]⟩ : ByteArray)), (.string (⟨#[]⟩ : ByteArray)), (.slice none 0 0), (.int .i64 0), (.slice none 0 0)] 27 (0, 0)) from q0l B2.out b2.out.symm _)
 have XO := am (show Kd.N k49 49 (w6.setCell ⟨g1, 2, none⟩ (.slice A6 n6 cc6)) w.heap.size (fun k_ => ((P2 k_ ∧ k_ < w.heap.size) ∨ w2.heap.size ≤ k_)) (.slice A6 n6 cc6) (l0.take (mn (l0.length : Int) 20).toNat) from Kd.N_far H6.out (fun k_ a0 => by have a1 := HW.out; have a5 := G1.out; have a4 := b1.out.1; rintro rfl; rcases a0 with ⟨_, a0⟩ | a0 <;> omega) _)
 have XB := am (show Below w.heap.size w (w6.setCell ⟨g1, 2, none⟩ (.slice A6 n6 cc6)) from q0n HB.out G1.out)
 clear B1 B2 H6 HB a3 h6
 have B1 := X1
 have B2 := X2
 have H6 := XO
 have HB := XB
 clear X1 X2 XO XB
 generalize w6.setCell ⟨g1, 2, none⟩ (.slice A6 n6 cc6) = w7 at *
 have hL : q0f ((l0.take (mn (l0.length : Int) 20).toNat).map cutT = r2) := ⟨by
  have a1 : l0.take 20 = l0.take (mn (l0.length : Int) 20).toNat := by rw [List.take_eq_take_iff]; have := HM.out; omega
  rw [← a1]; exact d1.out⟩
 clear d1
 clear d0 HM p1 p2 HF
 generalize l0.take (mn (l0.length : Int) 20).toNat = L at *
 have i2 := (Kd.N_reads' H6.out).1
 subst i2
 have a3 : w7.cell? ⟨g1, 2, none⟩ = some (.slice A6 L.length cc6) := bc B1.out
 go_wp2
 clear a3
 go_loopw [22] (fun i9 wr => ∃ q : Nat, i9 = .int .i64 q ∧ q0f (q ≤ L.length) ∧ q0f (Kd.N k49 49 wr w.heap.size (fun k_ => ((P2 k_ ∧ k_ < w.heap.size) ∨ w2.heap.size ≤ k_)) (.slice A6 L.length cc6) (few20 q L)) ∧ q0f (wr.heap[g1]? = some (.cells #[.string ky, .string nm, .slice A6 L.length cc6, .int .i64 is, .slice A4 l4.length c4] 27 (0, 0))) ∧ q0f (wr.heap[g2]? = some (.cells #[(.string (⟨#[]⟩ : ByteArray)), (.string (⟨#[]⟩ : ByteArray)), (.slice none 0 0), (.int .i64 0), (.slice none 0 0)] 27 (0, 0))) ∧ q0f (Below w.heap.size w wr)) (fun i _ => L.length - (intOf i).toNat)
 case atStart => exact ⟨0, rfl, ⟨Nat.zero_le _⟩, by rw [few20_zero]; exact H6, B1, B2, HB⟩
 case round =>
  clear H6 B1 B2 HB
  obtain ⟨q, rfl, HQ, H6, B1, B2, HB⟩ := hrel
  by_cases a8 : q < L.length
  ·
   have h8 : L.length ≤ 9223372036854775807 := by have a1 := (Kd.N_reads' H6.out).2.2.2.1; rw [few20_len _ _ (by omega)] at a1; exact a1
   have EW : wrap64 ((q : Int) + 1) = ((q + 1 : Nat) : Int) := by unfold wrap64; omega
   obtain ⟨g, k0, e6, i0, e0, b5, b6⟩ := Kd.N_form H6.out (by rw [few20_len _ _ (by omega)]; omega)
   injection e6 with e6 e7 e8
   subst e6
   subst e8
   clear e7
   obtain ⟨c, k9, b3, a6, b8⟩ := Kd.N_elem H6.out z49 (q : Int) (by omega) (by omega)
   rw [Int.toNat_natCast, few20_at q L a8] at b3
   rw [Int.toNat_natCast] at a6 b8
   have c6 := few20_set q L a8
   have b4 := few20_at q L a8
   generalize L[q] = t at *
   obtain ⟨A8, c8, h9, l8, k8⟩ := k49_open (Kd.FK_now b3)
   subst h9
   have t0 : wr.cell? ⟨g, q * 4, none⟩ = some (.slice A8 t.f0.length c8) := a6 0 _ rfl
   have t1 : wr.cell? ⟨g, q * 4 + 1, none⟩ = some (.int .i64 t.f1) := a6 1 _ rfl
   have t2 : wr.cell? ⟨g, q * 4 + 2, none⟩ = some (.int .i64 t.f2) := a6 2 _ rfl
   have t3 : wr.cell? ⟨g, q * 4 + 3, none⟩ = some (.int .i64 t.f3) := a6 3 _ rfl
   go_upto_region 5 with ((with_reducible refine q3b (N := 4) rfl ?_); refine q2p ?hg (N := 4) ?hd (cs := #[.slice none 0 0, .int .i64 0, .int .i64 0, .int .i64 0]) (t := 49) ?hr ?_; (case hd => rfl); (case hg => rfl); (case hr => first | (go_simp; done) | (go_simp; rfl)); intro g4 hg w8 a2 hb; fail)
   have h7 := q2h (o := .cells #[.string ky, .string nm, .slice (some ⟨g, 0, none⟩) L.length cc6, .int .i64 is, .slice A4 l4.length c4] 27 (0, 0)) B1.out
   have X4 := am (q1j wr (.cells #[.slice A8 t.f0.length c8, .int .i64 t.f1, .int .i64 t.f2, .int .i64 t.f3] 49 (0, 0)))
   have X1 := am (q0h B1.out (.cells #[.slice A8 t.f0.length c8, .int .i64 t.f1, .int .i64 t.f2, .int .i64 t.f3] 49 (0, 0)))
   have X2 := am (q0h B2.out (.cells #[.slice A8 t.f0.length c8, .int .i64 t.f1, .int .i64 t.f2, .int .i64 t.f3] 49 (0, 0)))
   have XB := am (q0d HB.out (.cells #[.slice A8 t.f0.length c8, .int .i64 t.f1, .int .i64 t.f2, .int .i64 t.f3] 49 (0, 0)))
   have XN := am (Kd.N_alloc (Kd.N_bound H6.out) (.cells #[.slice A8 t.f0.length c8, .int .i64 t.f1, .int .i64 t.f2, .int .i64 t.f3] 49 (0, 0)))
   have h2 := am (show g1 ≠ g from fun he => by have a1 := B1.out; rw [he, b6] at a1; simp at a1)
   have h3 := am (show g2 ≠ g from fun he => by have a1 := B2.out; rw [he, b6] at a1; simp at a1)
   have d3 := am (show g1 ≠ wr.heap.size from Nat.ne_of_lt (q2h B1.out))
   have G4 := am (show w.heap.size ≤ wr.heap.size from q0p HB.out)
   have h4 : g ≠ wr.heap.size := Nat.ne_of_lt e0
   have h5 := h4.symm
   have g9 := d3.out
   have h0 := d3.out.symm
   have bA : Below wr.heap.size wr (wr.alloc (.cells #[.slice A8 t.f0.length c8, .int .i64 t.f1, .int .i64 t.f2, .int .i64 t.f3] 49 (0, 0))) := q0d (Below.refl _ _) _
   have s0 := (bA.cell (World.block_lt_of_cell? wr _ t0)).trans t0
   have s1 := (bA.cell (World.block_lt_of_cell? wr _ t1)).trans t1
   have s2 := (bA.cell (World.block_lt_of_cell? wr _ t2)).trans t2
   have s3 := (bA.cell (World.block_lt_of_cell? wr _ t3)).trans t3
   have XK := am (Kd.FK_below (Kd.FK_bound b3) bA)
   have k7 : (wr.alloc (.cells #[.slice A8 t.f0.length c8, .int .i64 t.f1, .int .i64 t.f2, .int .i64 t.f3] 49 (0, 0))).frozen? ⟨g, q * 4, none⟩ = false := by
    have a1 := b8 0
    unfold World.frozen? at a1 ⊢
    rw [bA.block g e0]
    exact a1
   clear B1 B2 HB H6 t0 t1 t2 t3 a6 b8 b3 h7 b6 bA
   have B1 := X1
   have B2 := X2
   have B4 := X4
   have HB := XB
   have H6 := XN
   clear X1 X2 X4 XB XN
   have j9 : (wr.alloc (.cells #[.slice A8 t.f0.length c8, .int .i64 t.f1, .int .i64 t.f2, .int .i64 t.f3] 49 (0, 0))).cell? ⟨wr.heap.size, 0, none⟩ = some (.slice A8 t.f0.length c8) := bc B4.out
   have a3 : (wr.alloc (.cells #[.slice A8 t.f0.length c8, .int .i64 t.f1, .int .i64 t.f2, .int .i64 t.f3] 49 (0, 0))).cell? ⟨g1, 2, none⟩ = some (.slice (some ⟨g, 0, none⟩) L.length cc6) := bc B1.out
   generalize wr.alloc (.cells #[.slice A8 t.f0.length c8, .int .i64 t.f1, .int .i64 t.f2, .int .i64 t.f3] 49 (0, 0)) = w8 at *
   generalize wr.heap.size = g4 at *
   have p1 : (0 : Int) ≤ mn (t.f0.length : Int) 20 := by unfold mn; split <;> omega
   have p2 : mn (t.f0.length : Int) 20 ≤ (c8 : Int) := by unfold mn; split <;> omega
   have p3 : (q : Int) < (L.length : Int) := by omega
   have i1 : (mn (t.f0.length : Int) 20).toNat ≤ t.f0.length := by unfold mn; split <;> omega
   have a9 : (t.f0.take (mn (t.f0.length : Int) 20).toNat).length = (mn (t.f0.length : Int) 20).toNat := by rw [List.length_take]; omega
   have b7 : cutT t = ⟨t.f0.take (mn (t.f0.length : Int) 20).toNat, t.f1, t.f2, t.f3⟩ := by
    unfold cutT
    congr 1
    rw [List.take_eq_take_iff]
    unfold mn
    split <;> omega
   have c7 : Kd.FK k49 w8 (fun k => ((fun k_ => ((P2 k_ ∧ k_ < w.heap.size) ∨ w2.heap.size ≤ k_)) k ∧ k ≠ g)) (cutT t) ([(.slice A8 (mn (t.f0.length : Int) 20).toNat c8), .int .i64 t.f1, .int .i64 t.f2, .int .i64 t.f3] : List Value) := by
    intro W' hW
    have a1 := XK.out W' (fun k hk a8 => hW k hk.1 a8)
    obtain ⟨A', c', d6, l', g'⟩ := k49_open a1
    simp only [List.cons.injEq, Value.slice.injEq] at d6
    obtain ⟨⟨rfl, _, rfl⟩, _⟩ := d6
    rw [b7]
    have a5 := Kd.C_take g' (m := (mn (t.f0.length : Int) 20).toNat) i1
    have a4 := k49_mk W' ⟨t.f0.take (mn (t.f0.length : Int) 20).toNat, t.f1, t.f2, t.f3⟩ (A0 := A8) (c0 := c8) (by simp only; rw [a9]; omega) a5
    simp only at a4
    rw [a9] at a4
    exact a4
   obtain ⟨NN, NG⟩ := Kd.N_seg (Kd.N_mono H6.out (ok' := (fun k_ => ((P2 k_ ∧ k_ < w.heap.size) ∨ w2.heap.size ≤ k_))) (fun _ h => h.1)) (q : Int) (by omega) (by omega) (c := [.slice A8 t.f0.length c8, .int .i64 t.f1, .int .i64 t.f2, .int .i64 t.f3]) (seg := [(.slice A8 (mn (t.f0.length : Int) 20).toNat c8)]) (j := 0) rfl
    (fun j v hj => by
     rw [Int.toNat_natCast]
     rcases j with _ | _ | _ | _ | j
     ·
      simp at hj; subst hj; exact s0
     ·
      simp at hj; subst hj; exact s1
     ·
      simp at hj; subst hj; exact s2
     ·
      simp at hj; subst hj; exact s3
     simp at hj) (by show 0 + 1 ≤ 4; decide) (x' := cutT t) c7 (fun _ h => h)
   have XN := am (show Kd.N k49 49 (w8.setCell ⟨g, q * 4, none⟩ (.slice A8 (mn (t.f0.length : Int) 20).toNat c8)) w.heap.size (fun k_ => ((P2 k_ ∧ k_ < w.heap.size) ∨ w2.heap.size ≤ k_)) (.slice (some ⟨g, 0, none⟩) L.length cc6) (few20 (q + 1) L) from by
    have a1 := NN
    rw [Int.toNat_natCast, c6] at a1
    exact a1)
   have X1 := am (show (w8.setCell ⟨g, q * 4, none⟩ (.slice A8 (mn (t.f0.length : Int) 20).toNat c8)).heap[g1]? = some (.cells #[.string ky, .string nm, .slice (some ⟨g, 0, none⟩) L.length cc6, .int .i64 is, .slice A4 l4.length c4] 27 (0, 0)) from q0l B1.out h2.out _)
   have X2 := am (show (w8.setCell ⟨g, q * 4, none⟩ (.slice A8 (mn (t.f0.length : Int) 20).toNat c8)).heap[g2]? = some (.cells #[(.string (⟨#[]⟩ : ByteArray)), (.string (⟨#[]⟩ : ByteArray)), (.slice none 0 0), (.int .i64 0), (.slice none 0 0)] 27 (0, 0)) from q0l B2.out h3.out _)
   have XB := am (show Below w.heap.size w (w8.setCell ⟨g, q * 4, none⟩ (.slice A8 (mn (t.f0.length : Int) 20).toNat c8)) from q0n HB.out i0)
   clear XK c7 NN NG B1 B2 B4 HB H6
   go_region
   go_wp2
   go_roundw
   case rel => exact ⟨q + 1, by go_num, ⟨by omega⟩, ⟨Kd.N_drew XN.out⟩, ⟨q0g X1.out⟩, ⟨q0g X2.out⟩, ⟨q1l XB.out⟩⟩
   case measure => simp [intOf]; omega
  obtain rfl : q = L.length := by have := HQ.out; omega
  rw [few20_all, hL.out] at H6
  have j0 : wr.cell? ⟨g1, 0, none⟩ = some (.string ky) := bc B1.out
  have a3 : wr.cell? ⟨g1, 1, none⟩ = some (.string nm) := bc B1.out
  have j1 : wr.cell? ⟨g1, 2, none⟩ = some (.slice A6 L.length cc6) := bc B1.out
  have j2 : wr.cell? ⟨g1, 3, none⟩ = some (.int .i64 is) := bc B1.out
  have j3 : wr.cell? ⟨g1, 4, none⟩ = some (.slice A4 l4.length c4) := bc B1.out
  have k1 := q0k B1.out 4
  have j4 : wr.cell? ⟨g2, 0, none⟩ = some (.string (⟨#[]⟩ : ByteArray)) := bc B2.out
  have k2 := q0k B2.out 0
  have j5 : wr.cell? ⟨g2, 1, none⟩ = some (.string (⟨#[]⟩ : ByteArray)) := bc B2.out
  have k3 := q0k B2.out 1
  have j6 : wr.cell? ⟨g2, 2, none⟩ = some (.slice none 0 0) := bc B2.out
  have k4 := q0k B2.out 2
  have j7 : wr.cell? ⟨g2, 3, none⟩ = some (.int .i64 0) := bc B2.out
  have k5 := q0k B2.out 3
  have j8 : wr.cell? ⟨g2, 4, none⟩ = some (.slice none 0 0) := bc B2.out
  have k6 := q0k B2.out 4
  have l1 := b2.out
  have l2 := b2.out.symm
  have p1 : (0 : Int) ≤ mn (l4.length : Int) 20 := by unfold mn; split <;> omega
  have p2 : mn (l4.length : Int) 20 ≤ (c4 : Int) := by have := f7.out; unfold mn; split <;> omega
  have e1 : q0f ((mn (l4.length : Int) 20).toNat = (l4.take 20).length) := ⟨by rw [List.length_take]; unfold mn; split <;> omega⟩
  go_wp2
  have X1 := am (show (wr.setCell ⟨g1, 4, none⟩ (.slice A4 (mn (l4.length : Int) 20).toNat c4)).heap[g2]? = some (.cells #[(.string (⟨#[]⟩ : ByteArray)), (.string (⟨#[]⟩ : ByteArray)), (.slice none 0 0), (.int .i64 0), (.slice none 0 0)] 27 (0, 0)) from q0l B2.out b2.out.symm _)
  refine bodyPost_ret (q3k rfl (.cell g2 27 #[.string ky, .string nm, .slice A6 L.length cc6, .int .i64 is, .slice A4 (mn (l4.length : Int) 20).toNat c4] (0, 0) _ rfl (q0o (cs := #[.string ky, .string nm, .slice A6 L.length cc6, .int .i64 is, (.slice none 0 0)]) (cs' := #[.string ky, .string nm, .slice A6 L.length cc6, .int .i64 is, .slice A4 (mn (l4.length : Int) 20).toNat c4]) (q0o (cs := #[.string ky, .string nm, .slice A6 L.length cc6, (.int .i64 0), (.slice none 0 0)]) (cs' := #[.string ky, .string nm, .slice A6 L.length cc6, .int .i64 is, (.slice none 0 0)]) (q0o (cs := #[.string ky, .string nm, (.slice none 0 0), (.int .i64 0), (.slice none 0 0)]) (cs' := #[.string ky, .string nm, .slice A6 L.length cc6, (.int .i64 0), (.slice none 0 0)]) (q0o (cs := #[.string ky, (.string (⟨#[]⟩ : ByteArray)), (.slice none 0 0), (.int .i64 0), (.slice none 0 0)]) (cs' := #[.string ky, .string nm, (.slice none 0 0), (.int .i64 0), (.slice none 0 0)]) (q0o (cs := #[(.string (⟨#[]⟩ : ByteArray)), (.string (⟨#[]⟩ : ByteArray)), (.slice none 0 0), (.int .i64 0), (.slice none 0 0)]) (cs' := #[.string ky, (.string (⟨#[]⟩ : ByteArray)), (.slice none 0 0), (.int .i64 0), (.slice none 0 0)]) X1.out 0 _ rfl) 1 _ rfl) 2 _ rfl) 3 _ rfl) 4 _ rfl) Try.underlying27 rfl (by kernel_rfl) .nil)) rfl ?_
  have b0 : ∀ k_, ((P2 k_ ∧ k_ < w.heap.size) ∨ w2.heap.size ≤ k_) → k_ ≠ g2 := by
   intro k_ a0
   have a5 := G2.out
   have a4 := b1.out.2
   rintro rfl
   rcases a0 with ⟨_, a0⟩ | a0 <;> omega
  have b9 : ∀ k_, ((P2 k_ ∧ k_ < w.heap.size) ∨ w2.heap.size ≤ k_) → k_ ≠ g1 := by
   intro k_ a0
   have a5 := G1.out
   have a4 := b1.out.1
   rintro rfl
   rcases a0 with ⟨_, a0⟩ | a0 <;> omega
  have c9 : Below w.heap.size w ((((((wr.setCell ⟨g1, 4, none⟩ (.slice A4 (mn (l4.length : Int) 20).toNat c4)).setCell ⟨g2, 0, none⟩ (.string ky)).setCell ⟨g2, 1, none⟩ (.string nm)).setCell ⟨g2, 2, none⟩ (.slice A6 L.length cc6)).setCell ⟨g2, 3, none⟩ (.int .i64 is)).setCell ⟨g2, 4, none⟩ (.slice A4 (mn (l4.length : Int) 20).toNat c4)) := q0n (q0n (q0n (q0n (q0n (q0n HB.out G1.out) G2.out) G2.out) G2.out) G2.out) G2.out
  have f9 := (show Kd.N k49 49 (wr.setCell ⟨g1, 4, none⟩ (.slice A4 (mn (l4.length : Int) 20).toNat c4)) w.heap.size (fun k_ => ((P2 k_ ∧ k_ < w.heap.size) ∨ w2.heap.size ≤ k_)) (.slice A6 L.length cc6) r2 from Kd.N_far H6.out b9 _)
  have g0 := (show Kd.N k49 49 ((wr.setCell ⟨g1, 4, none⟩ (.slice A4 (mn (l4.length : Int) 20).toNat c4)).setCell ⟨g2, 0, none⟩ (.string ky)) w.heap.size (fun k_ => ((P2 k_ ∧ k_ < w.heap.size) ∨ w2.heap.size ≤ k_)) (.slice A6 L.length cc6) r2 from Kd.N_far f9 b0 _)
  have g3 := (show Kd.N k49 49 (((wr.setCell ⟨g1, 4, none⟩ (.slice A4 (mn (l4.length : Int) 20).toNat c4)).setCell ⟨g2, 0, none⟩ (.string ky)).setCell ⟨g2, 1, none⟩ (.string nm)) w.heap.size (fun k_ => ((P2 k_ ∧ k_ < w.heap.size) ∨ w2.heap.size ≤ k_)) (.slice A6 L.length cc6) r2 from Kd.N_far g0 b0 _)
  have g5 := (show Kd.N k49 49 ((((wr.setCell ⟨g1, 4, none⟩ (.slice A4 (mn (l4.length : Int) 20).toNat c4)).setCell ⟨g2, 0, none⟩ (.string ky)).setCell ⟨g2, 1, none⟩ (.string nm)).setCell ⟨g2, 2, none⟩ (.slice A6 L.length cc6)) w.heap.size (fun k_ => ((P2 k_ ∧ k_ < w.heap.size) ∨ w2.heap.size ≤ k_)) (.slice A6 L.length cc6) r2 from Kd.N_far g3 b0 _)
  have g6 := (show Kd.N k49 49 (((((wr.setCell ⟨g1, 4, none⟩ (.slice A4 (mn (l4.length : Int) 20).toNat c4)).setCell ⟨g2, 0, none⟩ (.string ky)).setCell ⟨g2, 1, none⟩ (.string nm)).setCell ⟨g2, 2, none⟩ (.slice A6 L.length cc6)).setCell ⟨g2, 3, none⟩ (.int .i64 is)) w.heap.size (fun k_ => ((P2 k_ ∧ k_ < w.heap.size) ∨ w2.heap.size ≤ k_)) (.slice A6 L.length cc6) r2 from Kd.N_far g5 b0 _)
  have g7 := (show Kd.N k49 49 ((((((wr.setCell ⟨g1, 4, none⟩ (.slice A4 (mn (l4.length : Int) 20).toNat c4)).setCell ⟨g2, 0, none⟩ (.string ky)).setCell ⟨g2, 1, none⟩ (.string nm)).setCell ⟨g2, 2, none⟩ (.slice A6 L.length cc6)).setCell ⟨g2, 3, none⟩ (.int .i64 is)).setCell ⟨g2, 4, none⟩ (.slice A4 (mn (l4.length : Int) 20).toNat c4)) w.heap.size (fun k_ => ((P2 k_ ∧ k_ < w.heap.size) ∨ w2.heap.size ≤ k_)) (.slice A6 L.length cc6) r2 from Kd.N_far g6 b0 _)
  have g8 := (show Kd.F k51 ((((((wr.setCell ⟨g1, 4, none⟩ (.slice A4 (mn (l4.length : Int) 20).toNat c4)).setCell ⟨g2, 0, none⟩ (.string ky)).setCell ⟨g2, 1, none⟩ (.string nm)).setCell ⟨g2, 2, none⟩ (.slice A6 L.length cc6)).setCell ⟨g2, 3, none⟩ (.int .i64 is)).setCell ⟨g2, 4, none⟩ (.slice A4 (mn (l4.length : Int) 20).toNat c4)) (fun k_ => P4 k_) A4 (l4.take 20).length (l4.take 20) from Kd.F_below (Kd.F_take f8.out (m := (mn (l4.length : Int) 20).toNat) (by unfold mn; split <;> omega) |> fun h_ => by have e_ : l4.take (mn (l4.length : Int) 20).toNat = l4.take 20 := (by rw [List.take_eq_take_iff]; unfold mn; split <;> omega); rwa [e_] at h_) c9)
  have d2 := Kd.V_mk (e := 51) (base := w.heap.size) (c := c4) (by have h_ := e1.out; omega) g8
  rw [← e1.out] at d2
  refine ⟨_, _, rfl, Kd.V_mono (Kd.N_V g7) (fun k_ a0 => ?_), Kd.V_mono d2 (fun k_ a0 => .inl (.inr a0)), c9⟩
  have a5 := G2.out
  have a4 := b1.out.2
  rcases a0 with ⟨a0, _⟩ | a0
  ·
   exact .inl (.inl a0)
  exact .inr (by omega)
theorem X.F5.calls (k : Nat) (a6 a7 : ByteArray) (a0 : Nat → Prop) (a4 : Option Addr) (a9 : Nat) (a2 : List S49) (a8 : Int) (a1 : Nat → Prop) (a5 : Option Addr) (b0 : Nat) (a3 : List S51) (r1 r2 : ByteArray) (r3 : List S49) (r4 : Int) (r5 : List S51) (w : World) (b1 : Kd.V k49 49 w w.heap.size (fun k_ => a0 k_) (.slice a4 a2.length a9) a2) (b2 : Kd.V k51 51 w w.heap.size (fun k_ => a1 k_) (.slice a5 a3.length b0) a3) (h : X.F5.f k a6 a7 a2 a8 a3 = some (r1, r2, r3, r4, r5)) :
  Calls Try.prog 9 #[.agg #[.string a6, .string a7, .slice a4 a2.length a9, .int .i64 a8, .slice a5 a3.length b0]] w fun e w' => ∃ b3 b4 : Value, e = .returned (.agg #[.string r1, .string r2, b3, .int .i64 r4, b4]) ∧ Kd.V k49 49 w' w.heap.size (fun k_ => ((a0 k_ ∨ a1 k_) ∨ w.heap.size ≤ k_)) b3 r3 ∧ Kd.V k51 51 w' w.heap.size (fun k_ => ((a0 k_ ∨ a1 k_) ∨ w.heap.size ≤ k_)) b4 r5 ∧ Below w.heap.size w w' := by
 unfold X.F5.f at h
 simp only [Option.some.injEq, Prod.mk.injEq] at h
 obtain ⟨rfl, rfl, h3, rfl, rfl⟩ := h
 exact few_calls a6 a7 a0 a4 a9 a2 a8 a1 a5 b0 a3 r3 w h3 b1 b2
end Go.Proofs.Ytabmkighhmchmaa
namespace Go.Proofs.Ytabmkighhmchmaa
open Go.RowKit Go.Shelf Go.YW.PrintWords Go.YW.PrintLast Go.YW.PrintMore Go.YW.Sq
open X (S49 S51 k49 k51 q0e q0c q1q q1u z51)
set_option linter.unusedVariables false
set_option linter.unusedSimpArgs false
theorem mendF_le {ts : List S49} {is : Int} {xs : List S51} {p : Int × List S51} (h : mendF ts is xs = some p) : xs.length ≤ 1000000 := by
 unfold mendF at h
 by_cases hl : xs.length ≤ 1000000
 ·
  exact hl
 rw [if_neg hl] at h; cases h
def newPost (ky nm : ByteArray) (A1 : Option Addr) (c1 : Nat) (ts : List S49) (w : World) (p : Int × Int × List S51) (e : Ending) (w' : World) : Prop :=
 ((p.1 = 0 ∧ ∃ v, e = .returned (.tuple #[.agg #[(.string ky), (.string nm), (.slice A1 ts.length c1), (.int .i64 p.2.1), v], .int .i64 0]) ∧ Kd.R k51 51 w' w.heap.size (fun _ => True) v p.2.2) ∨
  (p.1 ≠ 0 ∧ e = .returned (.tuple #[zeroRun, .int .i64 p.1]))) ∧ Below w.heap.size w w'
set_option maxHeartbeats 4000000 in
set_option maxRecDepth 100000 in
theorem new_calls (k : Nat) (ky nm : ByteArray) (A1 : Option Addr) (c1 : Nat) (ts : List S49) (p : Int × Int × List S51) (w : World) (hT : Kd.C k49 w A1 ts.length ts) (ht : ts.length ≤ c1) (h : newO k ky nm ts = some p) :
  Calls Try.prog 10 #[.string ky, .agg #[(.string nm), (.slice A1 ts.length c1)]] w fun e w' => newPost ky nm A1 c1 ts w p e w' := by
 have c8 := Try.underlying27
 have b9 := Try.underlying24
 have b8 := Try.underlying22
 have HT := am hT
 have a8 := am ht
 have HB := am (Below.refl w.heap.size w)
 have HH := am h
 clear hT ht h
 rcases hb_ : (if ky.size < 1 then false else if 16 < ky.size then false else true : Bool) with _ | _
 ·
  have hp : p = (1, 0, []) := by
   have h_ := HH.out
   unfold newO at h_
   split at h_
   ·
    exact (Option.some.inj h_).symm
   split at h_
   ·
    exact (Option.some.inj h_).symm
   rename_i h1 h2; rw [if_neg h1, if_neg h2] at hb_; cases hb_
  have a7 := am hb_
  subst hp
  clear HH hb_
  go_enter Try.func10, Try.ntmps10
  go_wp2_with (first | ((with_reducible refine gD 3 ?_); refine bz 3 (#[(.string nm), (.slice A1 ts.length c1)] : Array Value) 24 HB ?_; clear HB; intro g1 hg a5 hb B1 a3 HB; clear hb hg) | ((with_reducible refine gD 4 ?_); refine bz 4 (#[(.string (⟨#[]⟩ : ByteArray)), (.string (⟨#[]⟩ : ByteArray)), (.slice none 0 0), (.int .i64 0), (.slice none 0 0)] : Array Value) 27 HB ?_; clear HB; intro g2 hg a6 hb B2 a4 HB; have a0 := nP hg B1; have a1 := am a0.out.symm; replace B1 := kP B1 hb; clear hb hg) | (go_at_call 28; refine (q3e ky false a7.out _).mono ?_; rintro e w3 ⟨rfl, hb⟩; replace B1 := kP B1 hb; replace B2 := kP B2 hb; replace HB := bS HB hb; clear hb; obtain ⟨d0, d1, d2, d3, d4⟩ := ce5 B2.out; obtain ⟨a9, b2, b3, b4, b5⟩ := z5 B2.out))
  refine bodyPost_ret (q1a rfl _ _ g2 27 (#[(.string (⟨#[]⟩ : ByteArray)), (.string (⟨#[]⟩ : ByteArray)), (.slice none 0 0), (.int .i64 0), (.slice none 0 0)] : Array Value) (0, 0) _ rfl (pP B2.out) Try.underlying27 rfl (by kernel_rfl)) rfl ?_
  exact ⟨.inr ⟨by decide, rfl⟩, pB HB.out⟩
 obtain ⟨e_, he, hh⟩ : ∃ e_, Fy.f k nm ts = some e_ ∧ (if e_ ≠ 0 then some (e_, 0, []) else (mendF ts 0 (List.replicate ts.length z51)).bind fun p => some (0, p.1, p.2)) = some p := by
  have h_ := HH.out
  unfold newO at h_
  split at h_
  ·
   rename_i h1; rw [if_pos h1] at hb_; cases hb_
  split at h_
  ·
   rename_i h1 h2; rw [if_neg h1, if_pos h2] at hb_; cases hb_
  exact Option.bind_eq_some_iff.1 h_
 have a7 := am hb_
 have HDR := am he
 clear HH hb_ he
 by_cases hi : e_ ≠ 0
 ·
  rw [if_pos hi] at hh
  obtain rfl := Option.some.inj hh
  have c9 : (e_ == 0) = false := beq_eq_false_iff_ne.2 hi
  have HI := am hi
  clear hh hi
  go_enter Try.func10, Try.ntmps10
  go_wp2_with (first | ((with_reducible refine gD 3 ?_); refine bz 3 (#[(.string nm), (.slice A1 ts.length c1)] : Array Value) 24 HB ?_; clear HB; intro g1 hg a5 hb B1 a3 HB; clear hb hg) | ((with_reducible refine gD 4 ?_); refine bz 4 (#[(.string (⟨#[]⟩ : ByteArray)), (.string (⟨#[]⟩ : ByteArray)), (.slice none 0 0), (.int .i64 0), (.slice none 0 0)] : Array Value) 27 HB ?_; clear HB; intro g2 hg a6 hb B2 a4 HB; have a0 := nP hg B1; have a1 := am a0.out.symm; replace B1 := kP B1 hb; clear hb hg) | (go_at_call 28; refine (q3e ky true a7.out _).mono ?_; rintro e w3 ⟨rfl, hb⟩; replace B1 := kP B1 hb; replace B2 := kP B2 hb; replace HB := bS HB hb; clear hb; obtain ⟨b0, b1⟩ := ce2 B1.out) | (go_at_call 29; refine (Fy.calls k nm A1 c1 ts _ _ (Kd.C_below HT.out HB.out) a8.out HDR.out).mono ?_; rintro e w4 ⟨rfl, hb⟩; replace B1 := kP B1 hb; replace B2 := kP B2 hb; replace HB := bS HB hb; clear b0 b1 hb; obtain ⟨d0, d1, d2, d3, d4⟩ := ce5 B2.out; obtain ⟨a9, b2, b3, b4, b5⟩ := z5 B2.out))
  refine bodyPost_ret (q1a rfl _ _ g2 27 (#[(.string (⟨#[]⟩ : ByteArray)), (.string (⟨#[]⟩ : ByteArray)), (.slice none 0 0), (.int .i64 0), (.slice none 0 0)] : Array Value) (0, 0) _ rfl (pP B2.out) Try.underlying27 rfl (by kernel_rfl)) rfl ?_
  exact ⟨.inr ⟨HI.out, rfl⟩, pB HB.out⟩
 rw [if_neg hi] at hh
 obtain ⟨⟨is', ys⟩, hm, hp⟩ := Option.bind_eq_some_iff.1 hh
 obtain rfl := Option.some.inj hp
 obtain rfl : e_ = 0 := by simpa using hi
 have HM := am hm
 clear hh hi hm hp
 have b6 : q0f (ts.length ≤ 1000000) := ⟨by have h_ := mendF_le HM.out; rwa [List.length_replicate] at h_⟩
 go_enter Try.func10, Try.ntmps10
 go_upto_region 6 with (first | ((with_reducible refine gD 3 ?_); refine bz 3 (#[(.string nm), (.slice A1 ts.length c1)] : Array Value) 24 HB ?_; clear HB; intro g1 hg a5 hb B1 a3 HB; clear hb hg) | ((with_reducible refine gD 4 ?_); refine bz 4 (#[(.string (⟨#[]⟩ : ByteArray)), (.string (⟨#[]⟩ : ByteArray)), (.slice none 0 0), (.int .i64 0), (.slice none 0 0)] : Array Value) 27 HB ?_; clear HB; intro g2 hg a6 hb B2 a4 HB; have a0 := nP hg B1; have a1 := am a0.out.symm; replace B1 := kP B1 hb; clear hb hg) | (go_at_call 28; refine (q3e ky true a7.out _).mono ?_; rintro e w3 ⟨rfl, hb⟩; replace B1 := kP B1 hb; replace B2 := kP B2 hb; replace HB := bS HB hb; clear hb; obtain ⟨b0, b1⟩ := ce2 B1.out) | (go_at_call 29; refine (Fy.calls k nm A1 c1 ts _ _ (Kd.C_below HT.out HB.out) a8.out HDR.out).mono ?_; rintro e w4 ⟨rfl, hb⟩; replace B1 := kP B1 hb; replace B2 := kP B2 hb; replace HB := bS HB hb; clear b0 b1 hb))
 refine q2i (n := 10) (S := fun w' => w'.cell? ⟨g1, 0, none⟩ = some (.string nm) ∧ w'.cell? ⟨g1, 1, none⟩ = some (.slice A1 ts.length c1)) (ds := [8]) (ba 10 0) (by kernel_rfl) rfl rfl ⟨((q0i (q0g B1.out) 0).trans rfl), ((q0i (q0g B1.out) 1).trans rfl)⟩ (fun a2 => ?_)
 refine ph 0 17 (ba 10 1) ?_
 refine ph 2 19 (ba 10 5) ?_
 refine th 1 18 (ba 10 7) a2 ?_
 refine th 3 20 (ba 10 15) a2 ?_
 refine ph 4 21 (ba 10 31) ?_
 refine oh 5 22 (ba 10 63) fun K hK => ?_
 refine Kd.R_make_step k51 (w0 := w) w.heap.size 51 (by rfl) (N := 22) rfl 25 (.tmp 21) (.tmp 21) rfl (ts.length : Int) rfl rfl Try.underlying25 (.agg #[.int .i64 0, .int .i64 0, .int .i64 0, .int .i64 0, .string ⟨#[]⟩]) 48 info51 rfl (by decide) (by decide) z51 (ok := fun _ => True) (okp := fun _ => False) ?aZ (fun _ hk => hk.elim) trivial (by omega) ?aL ?aB ?aS ?_
 case aZ => exact X.k51_mkM _ _ _ z51
 case aL => (have := b6.out; omega)
 case aB => exact (q0a HB.out)
 case aS => exact (q0p (q0a HB.out))
 intro v6 w6 ho hb hg b7
 rw [Int.toNat_natCast] at ho
 obtain ⟨A6, c6, e6⟩ := Kd.R_slice ho
 rw [List.length_replicate] at e6
 subst e6
 have H6 := am ho
 have X1 := am (q2y (q0g B1.out) hg (by intro h; cases h))
 have X2 := am (q2y (q0g B2.out) hg (by intro h; cases h))
 have XB := am hb
 clear B1 B2 HB hg b7 hb ho
 have B1 := X1
 have B2 := X2
 have HB := XB
 clear X1 X2 XB
 refine hK.out _ _ ⟨(bc B1.out), (bc B1.out)⟩ (fun a2 => ?_)
 clear hK K
 refine nh ?_
 refine ph 6 23 (ba 10 127) ?_
 refine oh 7 24 (ba 10 255) fun K hK => ?_
 refine q2c Try.func30 (by kernel_rfl) rfl #[.agg #[(.string ky), (.string nm), (.slice A1 ts.length c1), (.int .i64 0), (.slice A6 ts.length c6)]] (by rfl) rfl rfl (by simp only [List.map_toArray, List.map_cons, List.map_nil]; rfl) ?_
 with_reducible refine (mend_n ky nm A1 c1 ts 0 A6 c6 (List.replicate ts.length z51) ts.length List.length_replicate is' ys w6 (Kd.C_below HT.out HB.out) (by have h_ := (Kd.R_reads' H6.out).2.2; rwa [List.length_replicate] at h_ ⊢) HM.out).mono ?_
 rintro e w7 ⟨v7, rfl, ho, hb⟩
 refine ⟨_, rfl, ?_⟩
 obtain ⟨A7, c7, e7⟩ := Kd.R_slice ho
 subst e7
 have H7 := am (Kd.R_lower ho (q0p HB.out))
 have X1 := am (q0b B1.out hb)
 have X2 := am (q0b B2.out hb)
 have XB := am (q0j HB.out hb)
 clear B1 B2 HB hb ho
 have B1 := X1
 have B2 := X2
 have HB := XB
 clear X1 X2 XB
 obtain ⟨d0, d1, d2, d3, d4⟩ := ce5 B2.out
 obtain ⟨a9, b2, b3, b4, b5⟩ := z5 B2.out
 refine hK.out _ _ ⟨(bc B1.out), (bc B1.out)⟩ (fun a2 => ?_)
 clear hK K
 refine nh ?_
 refine last_ (i := 8) (N := none) (ba 10 511) rfl rfl (by kernel_rfl) (by decide) (fun K hK => ?_)
 refine skip_ (w1 := ?_) (by rfl) rfl ?_ ?_
 rotate_left
 ·
  go_simp
  rfl
 refine hK.out _ _ ?_
 clear hK K
 refine ph 9 5 (ba 10 1023) ?_
 refine q2a (by kernel_rfl) ?_
 go_wp2
 refine bodyPost_ret (q1a rfl _ _ g2 27 (#[(.string ky), (.string nm), (.slice A1 ts.length c1), (.int .i64 is'), (.slice A7 ys.length c7)] : Array Value) (0, 0) _ rfl (pP B2.out) Try.underlying27 rfl (by kernel_rfl)) rfl ?_
 exact ⟨.inl ⟨rfl, _, rfl, (Kd.R_set (Kd.R_set (Kd.R_set (Kd.R_set (Kd.R_set H7.out (pP (cs' := #[(.string (⟨#[]⟩ : ByteArray)), (.string (⟨#[]⟩ : ByteArray)), (.slice none 0 0), (.int .i64 0), (.slice none 0 0)]) B2.out) (by decide) _ _) (pP (cs' := #[(.string ky), (.string (⟨#[]⟩ : ByteArray)), (.slice none 0 0), (.int .i64 0), (.slice none 0 0)]) B2.out) (by decide) _ _) (pP (cs' := #[(.string ky), (.string nm), (.slice none 0 0), (.int .i64 0), (.slice none 0 0)]) B2.out) (by decide) _ _) (pP (cs' := #[(.string ky), (.string nm), (.slice A1 ts.length c1), (.int .i64 0), (.slice none 0 0)]) B2.out) (by decide) _ _) (pP (cs' := #[(.string ky), (.string nm), (.slice A1 ts.length c1), (.int .i64 is'), (.slice none 0 0)]) B2.out) (by decide) _ _)⟩, pB HB.out⟩
namespace X
theorem Gg.calls (k : Nat) (a0 a5 : ByteArray) (a1 : Nat → Prop) (a4 : Option Addr) (a6 : Nat) (a2 : List S49) (r1 r2 : ByteArray) (r3 : List S49) (r4 : Int) (r5 : List S51) (r6 : Int) (w : World) (a3 : Kd.V k49 49 w w.heap.size (fun k_ => a1 k_) (.slice a4 a2.length a6) a2) (h : Gg.f k a0 a5 a2 = some (r1, r2, r3, r4, r5, r6)) :
  Calls Try.prog 10 #[.string a0, .agg #[.string a5, .slice a4 a2.length a6]] w fun e w' => ∃ a7 a8 : Value, e = .returned (.tuple #[.agg #[.string r1, .string r2, a7, .int .i64 r4, a8], .int .i64 r6]) ∧ Kd.V k49 49 w' w.heap.size (fun k_ => (a1 k_ ∨ w.heap.size ≤ k_)) a7 r3 ∧ Kd.V k51 51 w' w.heap.size (fun k_ => (a1 k_ ∨ w.heap.size ≤ k_)) a8 r5 ∧ Below w.heap.size w w' := by
 obtain ⟨p, hp, h⟩ := Option.bind_eq_some_iff.1 h
 obtain ⟨_, b0, a9⟩ := Kd.V_reads' a3
 refine (new_calls k a0 a5 a4 a6 a2 p w a9 b0 hp).mono ?_
 rintro e w' ⟨h1, hb⟩
 have hr := Option.some.inj h
 rcases h1 with ⟨h0, v, rfl, ho⟩ | ⟨h0, rfl⟩
 ·
  unfold q3v at hr
  rw [if_pos h0] at hr
  cases hr
  exact ⟨_, v, rfl, Kd.V_mono (Kd.V_below a3 hb) (fun k hk => .inl hk), Kd.R_V (Kd.R_mono (Kd.R_bound ho) (fun k hk => .inr hk.2.1)), hb⟩
 unfold q3v at hr
 rw [if_neg h0] at hr
 cases hr
 exact ⟨_, _, rfl, Kd.V_nil _ _ _ _ _, Kd.V_nil _ _ _ _ _, hb⟩
end X
end Go.Proofs.Ytabmkighhmchmaa
namespace Go.Proofs.Ytabmkighhmchmaa
open Go.RowKit Go.Shelf Go.YW.PrintWords Go.YW.PrintLast Go.YW.PrintMore Go.YW.Sq
open X (S49 S51 k49 k51 q0e q0c q1q q1u z51)
set_option linter.unusedVariables false
set_option linter.unusedSimpArgs false
attribute [local go_sem] Oper.semAt_some
theorem goesV_ {P : Program} {ops : Array Oper} {Q : Exit → Act → World → Prop} {oi : Oper} {N : Option Tmp} {a : Act} {w : World} {K : Act → World → Prop} {f : FuncId} {fn : Func} {cv : Operand} {lb : Array Value} {aas : Array Operand} {ts : Array TypeId} (hf : P.funcs[f]? = some fn) (a1 : (fn.name == "runtime.NumGoroutine") = false) (hb : fn.body.isSome = true) (args : Array Value)
  (hw : Region.wanted oi (yielded ops a.tmps) = true) (hN : oi.dst = N) (a3 : oi.op = .call { callee := .value cv, args := aas, argTypes := ts }) (a2 : a.eval cv = .func (.func f) #[] lb) (a0 : aas.map a.eval = args)
  (h : Calls P f (args ++ lb) w fun e w' => ∃ v, e = .returned v ∧ K (a.put N v) w') : if Region.wanted oi (yielded ops a.tmps) = true then Oper.wp P oi a w K Q else K (a.put N undef) w := by
 refine call_ f (args ++ lb) hw hN ?_ h
 have he := enters_ hf a1 hb (args ++ lb) w
 unfold execOp
 simp [a3, resolve, Deferred.ofValue, invoke, a2, a0, he]
theorem own_R {A B : World} {row : Option Nat} {base : Nat} {ok : Nat → Prop} {v : Value} {ys : List S51} (h : Kd.R k51 51 A base ok v ys) (hg : A.grownBy B row) (hr : ∀ r, row = some r → ∃ o : Obj, A.heap[r]? = some o ∧ o.isCells = false) : Kd.R k51 51 B base ok v ys :=
 Kd.R_grown2 h rfl hg (fun k e hk => by
  obtain ⟨inner, ho⟩ := Kd.R_own h
  obtain ⟨a0, hc⟩ := own_typed ho k hk.symm
  obtain ⟨ob, h1, h2⟩ := hr k e
  rw [hc] at h1
  cases h1
  cases h2)
theorem results_cs {P : Program} {fn : Func} {p p' : Tmp} {ty ty' : TypeId} (h : fn.results = #[.cell p ty, .cell p' ty']) (tmps : Array Value) (w : World) (g g' : Nat) (t : TypeId) (cs : Array Value) (fr : Nat × Nat) (d : TypeDesc) (v : Value)
  (hp : tmps.getD p undef = .pointer (some ⟨g, 0, none⟩)) (hg : w.heap[g]? = some (.cells cs t fr))
  (hu : P.underlying ty = some d) (hd : (match d with | .struct _ | .array _ _ => true | _ => false) = true) (hi : (P.info? ty).map (·.size) = some cs.size)
  (a0 : tmps.getD p' undef = .pointer (some ⟨g', 0, none⟩)) (hl : (loadVar ty' ⟨g', 0, none⟩).run P w = .ok v w) :
  (results fn tmps).run P w = .ok (.tuple #[.agg cs, v]) w := by
 have h1 : tmps[p]?.getD undef = .pointer (some ⟨g, 0, none⟩) := by simpa using hp
 have h2 : tmps[p']?.getD undef = .pointer (some ⟨g', 0, none⟩) := by simpa using a0
 simp [results, h, h1, h2, asAddr, run_loadVar_row w g t ty cs fr d hg hu hd hi, hl]
theorem load29 (w : World) (g : Nat) (v : Value) (h : w.cell? ⟨g, 0, none⟩ = some v) : (loadVar 29 ⟨g, 0, none⟩).run Try.prog w = .ok v w := by
 have hu := Try.underlying29
 simp [loadVar, hu, h, go_sem]
def isHeld (ys : List S51) (a0 : Int) (x : Fin ys.length) : Prop := (q0c ys (x.val : Int)).f0 = 2 ∧ (q0c ys (x.val : Int)).f3 = a0
theorem heldL_skip (ts : List S49) (is : Int) (ys : List S51) (a0 : Int) (a2 : S49 → S51 → Option (S51 × Int)) : ∀ (a1 l : List (Fin ys.length)), (∀ y ∈ a1, ¬ isHeld ys a0 y) → heldL ts is ys a0 a2 (a1 ++ l) = heldL ts is ys a0 a2 l
 | [], l, _ => rfl
 | x :: a1, l, h => by
  have ih := heldL_skip ts is ys a0 a2 a1 l (fun y hy => h y (List.mem_cons_of_mem _ hy))
  have h1 := h x (List.mem_cons_self ..)
  rw [List.cons_append, heldL]
  by_cases h2 : (q0c ys (x.val : Int)).f0 ≠ 2
  ·
   rw [if_pos h2, ih]
  rw [if_neg h2]
  by_cases h3 : (q0c ys (x.val : Int)).f3 ≠ a0
  ·
   rw [if_pos h3, ih]
  exact absurd ⟨by simpa using h2, by simpa using h3⟩ h1
theorem heldL_here (ts : List S49) (is : Int) (ys : List S51) (a0 : Int) (a1 : S49 → S51 → Option (S51 × Int)) (x : Fin ys.length) (l : List (Fin ys.length)) (h : isHeld ys a0 x) :
  heldL ts is ys a0 a1 (x :: l) = (a1 (q0e ts (x.val : Int)) (q0c ys (x.val : Int))).bind fun p => if p.2 ≠ 0 then some (p.2, 0, []) else (mendF ts is (ys.set x.val p.1)).bind fun q => some (0, q.1, q.2) := by
 rw [heldL, if_neg (by simpa using h.1), if_neg (by simpa using h.2)]
theorem goodHeld_at {ts : List S49} {is : Int} {ys : List S51} {token : Int} {act : S49 → S51 → Option (S51 × Int)} (h : goodHeld ts is ys token act = true) (x : Fin ys.length) (hx : isHeld ys token x) :
  ∃ p, act (q0e ts (x.val : Int)) (q0c ys (x.val : Int)) = some p ∧ (p.2 = 0 → ∃ q, mendF ts is (ys.set x.val p.1) = some q) := by
 have h1 := List.all_eq_true.1 h x (List.mem_finRange x)
 simp only [Bool.or_eq_true, decide_eq_true_eq] at h1
 rcases h1 with (h1 | h1) | h1
 ·
  exact absurd hx.1 h1
 ·
  exact absurd hx.2 h1
 cases ha : act (q0e ts (x.val : Int)) (q0c ys (x.val : Int)) with
 | none => rw [ha] at h1; cases h1
 | some p =>
  rw [ha] at h1
  refine ⟨p, rfl, fun hp => ?_⟩
  simp only [hp, Bool.or_eq_true, decide_eq_true_eq, ne_eq, not_true, false_or] at h1
  exact Option.isSome_iff_exists.1 (by simpa using h1)
theorem heldO_cases {k : Nat} {ky nm : ByteArray} {ts : List S49} {is : Int} {xs : List S51} {now token : Int} {act : S49 → S51 → Option (S51 × Int)} {r : Int × Int × List S51} (h : heldO k ky nm ts is xs now token act = some r) :
  (q3u k ky nm ts is xs now = some none ∧ r = (1, 0, [])) ∨ (∃ is' ys, q3u k ky nm ts is xs now = some (some (is', ys)) ∧ goodHeld ts is' ys token act = true ∧ heldL ts is' ys token act (List.finRange ys.length) = some r) := by
 obtain ⟨so, hs, h⟩ := Option.bind_eq_some_iff.1 h
 rcases so with _ | ⟨is', ys⟩
 ·
  exact .inl ⟨hs, (Option.some.inj h).symm⟩
 refine .inr ⟨is', ys, hs, ?_⟩
 by_cases hg : goodHeld ts is' ys token act = false
 ·
  exact absurd ((if_pos hg).symm.trans h) (by simp)
 exact ⟨by simpa using hg, (if_neg hg).symm.trans h⟩
set_option maxHeartbeats 4000000 in
set_option maxRecDepth 100000 in
theorem q3r (m : Nat) (fm : Func) (hf : Try.prog.funcs[m]? = some fm) (g3 : (fm.name == "runtime.NumGoroutine") = false) (o0 : fm.body.isSome = true) (lb : Array Value) (i8 : S49 → S51 → Option (S51 × Int))
  (k : Nat) (ky nm : ByteArray) (A1 : Option Addr) (c1 : Nat) (ts : List S49) (is : Int) (A2 : Option Addr) (c2 : Nat) (xs : List S51) (now a6 : Int) (r : Int × Int × List S51) (w : World) (hT : Kd.C k49 w A1 ts.length ts) (ht : ts.length ≤ c1) (hC : Kd.C k51 w A2 xs.length xs)
  (i9 : ∀ (t : S49) (s : S51) (p : S51 × Int) (A0 : Option Addr) (c0 : Nat), i8 t s = some p → t.f0.length ≤ c0 → ∀ W, Below w.heap.size w W → Kd.C (Kd.int .i64) W A0 t.f0.length t.f0 → Calls Try.prog m (#[.agg #[.slice A0 t.f0.length c0, .int .i64 t.f1, .int .i64 t.f2, .int .i64 t.f3], .agg #[.int .i64 s.f0, .int .i64 s.f1, .int .i64 s.f2, .int .i64 s.f3, .string s.f4]] ++ lb) W fun e w' => e = .returned (.tuple #[.agg #[(.int .i64 p.1.f0), (.int .i64 p.1.f1), (.int .i64 p.1.f2), (.int .i64 p.1.f3), (.string p.1.f4)], .int .i64 p.2]) ∧ Below W.heap.size W w')
  (h : heldO k ky nm ts is xs now a6 i8 = some r) :
  Calls Try.prog 50 #[.agg #[(.string ky), (.string nm), (.slice A1 ts.length c1), (.int .i64 is), (.slice A2 xs.length c2)], .int .i64 now, .int .i64 a6, .func (.func m) #[] lb] w fun e w' => runPost ky nm A1 c1 ts A2 c2 xs w r e w' := by
 have q8 := Try.underlying27
 have q6 := Try.underlying24
 have q9 := Try.underlying49
 have r0 := Try.underlying51
 have q5 := Try.underlying22
 have q7 := Try.underlying25
 have HC := am hC
 have HT := am hT
 have m3 := am ht
 have l7 := am i9
 have HF := am (And.intro hf (And.intro g3 o0))
 have HB := am (Below.refl w.heap.size w)
 have HH := am (heldO_cases h)
 clear hT hC h ht i9 hf g3 o0
 rcases HH.out with ⟨hs, rfl⟩ | ⟨is', ys, hs, hg, hl⟩
 ·
  have HO := am hs
  clear HH hs
  go_enter Try.func50, Try.ntmps50
  go_wp2_with (first | ((with_reducible refine gD 4 ?_); refine bz 4 (#[(.string ky), (.string nm), (.slice A1 ts.length c1), (.int .i64 is), (.slice A2 xs.length c2)] : Array Value) 27 HB ?_; clear HB; intro g4 hg r7 hb B4 o6 HB; clear hb hg) | ((with_reducible refine gD 6 ?_); refine bz 6 (#[(.int .i64 a6)] : Array Value) 3 HB ?_; clear HB; intro g6 hg r8 hb B6 o7 HB; have d7 := nP hg B4; have j4 := am d7.out.symm; replace B4 := kP B4 hb; clear hb hg) | ((with_reducible refine gD 7 ?_); refine bz 7 (#[(.func (.func m) #[] lb)] : Array Value) 74 HB ?_; clear HB; intro g7 hg r9 hb B7 o8 HB; have d8 := nP hg B4; have j5 := am d8.out.symm; have d9 := nP hg B6; have j6 := am d9.out.symm; replace B4 := kP B4 hb; replace B6 := kP B6 hb; clear hb hg) | ((with_reducible refine gD 8 ?_); refine bz 8 (#[(.string (⟨#[]⟩ : ByteArray)), (.string (⟨#[]⟩ : ByteArray)), (.slice none 0 0), (.int .i64 0), (.slice none 0 0)] : Array Value) 27 HB ?_; clear HB; intro g8 hg s0 hb B8 o9 HB; have c8 := nP hg B4; have f8 := am c8.out.symm; have e0 := nP hg B6; have j7 := am e0.out.symm; have f6 := nP hg B7; have j8 := am f6.out.symm; replace B4 := kP B4 hb; replace B6 := kP B6 hb; replace B7 := kP B7 hb; clear hb hg) | ((with_reducible refine gD 9 ?_); refine bz 9 (#[(.int .i64 0)] : Array Value) 29 HB ?_; clear HB; intro g9 hg s1 hb B9 p3 HB; have d5 := nP hg B4; have f9 := am d5.out.symm; have f5 := nP hg B6; have j9 := am f5.out.symm; have f7 := nP hg B7; have k0 := am f7.out.symm; have d6 := nP hg B8; have g0 := am d6.out.symm; replace B4 := kP B4 hb; replace B6 := kP B6 hb; replace B7 := kP B7 hb; replace B8 := kP B8 hb; clear hb hg; obtain ⟨b0, b1, b2, b3, b4⟩ := ce5 B4.out) | (go_at_call 14; refine (q2j k ky nm A1 c1 ts is A2 c2 xs now _ _ (Kd.C_below HT.out HB.out) m3.out (Kd.C_below HC.out HB.out) HO.out).mono ?_; rintro e w3 ⟨rfl, hb⟩; replace B4 := kP B4 hb; replace B6 := kP B6 hb; replace B7 := kP B7 hb; replace B8 := kP B8 hb; replace B9 := kP B9 hb; replace HB := bS HB hb; clear b0 b1 b2 b3 b4 hb; obtain ⟨b0, b1, b2, b3, b4⟩ := ce5 B4.out; obtain ⟨m9, n0, n1, n2, i2⟩ := z5 B4.out; obtain ⟨d0, d1, d2, d3, d4⟩ := ce5 B8.out; obtain ⟨k5, k8, k9, l0, l1⟩ := z5 B8.out; have q0 := ce1 B9.out; have l4 := z1 B9.out; have t8 := c8.out; have u1 := f8.out; have t9 := d5.out; have u3 := f9.out; have u2 := d6.out; have u4 := g0.out))
  refine bodyPost_ret (results_cs rfl _ _ g8 g9 27 (#[(.string (⟨#[]⟩ : ByteArray)), (.string (⟨#[]⟩ : ByteArray)), (.slice none 0 0), (.int .i64 0), (.slice none 0 0)] : Array Value) (0, 0) _ (.int .i64 1) rfl (pP B8.out) Try.underlying27 rfl (by kernel_rfl) rfl (load29 _ _ _ ((q0i (pP (cs' := #[.int .i64 1]) B9.out) 0).trans rfl))) rfl ?_
  exact ⟨.inr ⟨by decide, rfl⟩, pB HB.out⟩
 have HO := am hs
 have HG := am hg
 have l9 := am hl
 have k1 := am (settleO_len hs)
 clear HH hs hg hl
 refine (callsIn_wide (n := 6)).1 ?_
 refine callsIn_of_wp_marks Try.func50 rfl trivial ?_ rfl
 simp only [Try.ntmps50, List.size_toArray, List.length_cons, List.length_nil, Nat.reduceAdd, Nat.reduceSub, Array.replicate_succ, Array.replicate_zero, List.push_toArray, List.append_toArray, List.nil_append, List.cons_append]
 have B4 := am (show ((w).alloc (.cells #[(.string ky), (.string nm), (.slice A1 ts.length c1), (.int .i64 is), (.slice A2 xs.length c2)] 27)).heap[w.heap.size]? = some (.cells (#[(.string ky), (.string nm), (.slice A1 ts.length c1), (.int .i64 is), (.slice A2 xs.length c2)] : Array Value) 27 (0, 0)) from (by have h_ := q1j w (.cells #[(.string ky), (.string nm), (.slice A1 ts.length c1), (.int .i64 is), (.slice A2 xs.length c2)] 27); exact h_))
 have X4 := am (q0h B4.out (.cells #[(.int .i64 a6)] 3))
 clear B4
 have B4 := X4
 clear X4
 have B6 := am (show (((w).alloc (.cells #[(.string ky), (.string nm), (.slice A1 ts.length c1), (.int .i64 is), (.slice A2 xs.length c2)] 27)).alloc (.cells #[(.int .i64 a6)] 3)).heap[w.heap.size + 1]? = some (.cells (#[(.int .i64 a6)] : Array Value) 3 (0, 0)) from (by have h_ := q1j ((w).alloc (.cells #[(.string ky), (.string nm), (.slice A1 ts.length c1), (.int .i64 is), (.slice A2 xs.length c2)] 27)) (.cells #[(.int .i64 a6)] 3); rwa [World.size_alloc] at h_))
 have X4 := am (q0h B4.out (.cells #[(.func (.func m) #[] lb)] 74))
 have X6 := am (q0h B6.out (.cells #[(.func (.func m) #[] lb)] 74))
 clear B4 B6
 have B4 := X4
 have B6 := X6
 clear X4 X6
 have B7 := am (show ((((w).alloc (.cells #[(.string ky), (.string nm), (.slice A1 ts.length c1), (.int .i64 is), (.slice A2 xs.length c2)] 27)).alloc (.cells #[(.int .i64 a6)] 3)).alloc (.cells #[(.func (.func m) #[] lb)] 74)).heap[w.heap.size + 1 + 1]? = some (.cells (#[(.func (.func m) #[] lb)] : Array Value) 74 (0, 0)) from (by have h_ := q1j (((w).alloc (.cells #[(.string ky), (.string nm), (.slice A1 ts.length c1), (.int .i64 is), (.slice A2 xs.length c2)] 27)).alloc (.cells #[(.int .i64 a6)] 3)) (.cells #[(.func (.func m) #[] lb)] 74); rwa [World.size_alloc, World.size_alloc] at h_))
 have X4 := am (q0h B4.out (.cells #[(.string (⟨#[]⟩ : ByteArray)), (.string (⟨#[]⟩ : ByteArray)), (.slice none 0 0), (.int .i64 0), (.slice none 0 0)] 27))
 have X6 := am (q0h B6.out (.cells #[(.string (⟨#[]⟩ : ByteArray)), (.string (⟨#[]⟩ : ByteArray)), (.slice none 0 0), (.int .i64 0), (.slice none 0 0)] 27))
 have X7 := am (q0h B7.out (.cells #[(.string (⟨#[]⟩ : ByteArray)), (.string (⟨#[]⟩ : ByteArray)), (.slice none 0 0), (.int .i64 0), (.slice none 0 0)] 27))
 clear B4 B6 B7
 have B4 := X4
 have B6 := X6
 have B7 := X7
 clear X4 X6 X7
 have B8 := am (show (((((w).alloc (.cells #[(.string ky), (.string nm), (.slice A1 ts.length c1), (.int .i64 is), (.slice A2 xs.length c2)] 27)).alloc (.cells #[(.int .i64 a6)] 3)).alloc (.cells #[(.func (.func m) #[] lb)] 74)).alloc (.cells #[(.string (⟨#[]⟩ : ByteArray)), (.string (⟨#[]⟩ : ByteArray)), (.slice none 0 0), (.int .i64 0), (.slice none 0 0)] 27)).heap[w.heap.size + 1 + 1 + 1]? = some (.cells (#[(.string (⟨#[]⟩ : ByteArray)), (.string (⟨#[]⟩ : ByteArray)), (.slice none 0 0), (.int .i64 0), (.slice none 0 0)] : Array Value) 27 (0, 0)) from (by have h_ := q1j ((((w).alloc (.cells #[(.string ky), (.string nm), (.slice A1 ts.length c1), (.int .i64 is), (.slice A2 xs.length c2)] 27)).alloc (.cells #[(.int .i64 a6)] 3)).alloc (.cells #[(.func (.func m) #[] lb)] 74)) (.cells #[(.string (⟨#[]⟩ : ByteArray)), (.string (⟨#[]⟩ : ByteArray)), (.slice none 0 0), (.int .i64 0), (.slice none 0 0)] 27); rwa [World.size_alloc, World.size_alloc, World.size_alloc] at h_))
 have X4 := am (q0h B4.out (.cells #[(.int .i64 0)] 29))
 have X6 := am (q0h B6.out (.cells #[(.int .i64 0)] 29))
 have X7 := am (q0h B7.out (.cells #[(.int .i64 0)] 29))
 have X8 := am (q0h B8.out (.cells #[(.int .i64 0)] 29))
 clear B4 B6 B7 B8
 have B4 := X4
 have B6 := X6
 have B7 := X7
 have B8 := X8
 clear X4 X6 X7 X8
 have B9 := am (show ((((((w).alloc (.cells #[(.string ky), (.string nm), (.slice A1 ts.length c1), (.int .i64 is), (.slice A2 xs.length c2)] 27)).alloc (.cells #[(.int .i64 a6)] 3)).alloc (.cells #[(.func (.func m) #[] lb)] 74)).alloc (.cells #[(.string (⟨#[]⟩ : ByteArray)), (.string (⟨#[]⟩ : ByteArray)), (.slice none 0 0), (.int .i64 0), (.slice none 0 0)] 27)).alloc (.cells #[(.int .i64 0)] 29)).heap[w.heap.size + 1 + 1 + 1 + 1]? = some (.cells (#[(.int .i64 0)] : Array Value) 29 (0, 0)) from (by have h_ := q1j (((((w).alloc (.cells #[(.string ky), (.string nm), (.slice A1 ts.length c1), (.int .i64 is), (.slice A2 xs.length c2)] 27)).alloc (.cells #[(.int .i64 a6)] 3)).alloc (.cells #[(.func (.func m) #[] lb)] 74)).alloc (.cells #[(.string (⟨#[]⟩ : ByteArray)), (.string (⟨#[]⟩ : ByteArray)), (.slice none 0 0), (.int .i64 0), (.slice none 0 0)] 27)) (.cells #[(.int .i64 0)] 29); rwa [World.size_alloc, World.size_alloc, World.size_alloc, World.size_alloc] at h_))
 have XB := am (show Below w.heap.size w ((((((w).alloc (.cells #[(.string ky), (.string nm), (.slice A1 ts.length c1), (.int .i64 is), (.slice A2 xs.length c2)] 27)).alloc (.cells #[(.int .i64 a6)] 3)).alloc (.cells #[(.func (.func m) #[] lb)] 74)).alloc (.cells #[(.string (⟨#[]⟩ : ByteArray)), (.string (⟨#[]⟩ : ByteArray)), (.slice none 0 0), (.int .i64 0), (.slice none 0 0)] 27)).alloc (.cells #[(.int .i64 0)] 29)) from q0d (q0d (q0d (q0d (q0d (Below.refl _ w) _) _) _) _) _)
 clear HB
 have HB := XB
 clear XB
 gi_wp2_with (first | (refine ⟨trivial, ?_⟩; gi_at_call 14; refine (callsIn_wide.2 (q2j k ky nm A1 c1 ts is A2 c2 xs now _ _ (Kd.C_below HT.out HB.out) m3.out (Kd.C_below HC.out HB.out) HO.out)).mono ?_; rintro e w3 ⟨⟨v3, rfl, ho⟩, hb⟩; obtain ⟨A3, c3, e3⟩ := q1c.slice ho; (try dsimp only at e3); subst e3; have H3 := am (q1c.base ho (q0p HB.out)); have X4 := am (q0b B4.out hb); have X6 := am (q0b B6.out hb); have X7 := am (q0b B7.out hb); have X8 := am (q0b B8.out hb); have X9 := am (q0b B9.out hb); have XB := am (q0j HB.out hb); have j3 := am (show w.heap.size + 5 ≤ w3.heap.size by have := hb.size; simp at this; omega); clear HB B4 B6 B7 B8 B9; have B4 := X4; have B6 := X6; have B7 := X7; have B8 := X8; have B9 := X9; have HB := XB; clear XB hb ho X4 X6 X7 X8 X9; obtain ⟨b0, b1, b2, b3, b4⟩ := ce5 B4.out; obtain ⟨m9, n0, n1, n2, i2⟩ := z5 B4.out) | (refine ⟨trivial, ?_⟩; gi_at_call 43; refine (callsIn_wide.2 (q4s ky nm A1 ts.length c1 is' A3 ys.length c3 _)).mono ?_; rintro e w5 ⟨gb, rfl, hg, j0, hb⟩; have X4 := am (show (((((w3.setCell ⟨w.heap.size, 0, none⟩ (.string ky)).setCell ⟨w.heap.size, 1, none⟩ (.string nm)).setCell ⟨w.heap.size, 2, none⟩ (.slice A1 ts.length c1)).setCell ⟨w.heap.size, 3, none⟩ (.int .i64 is')).setCell ⟨w.heap.size, 4, none⟩ (.slice A3 ys.length c3)).heap[w.heap.size]? = some (.cells (#[(.string ky), (.string nm), (.slice A1 ts.length c1), (.int .i64 is'), (.slice A3 ys.length c3)] : Array Value) 27 (0, 0)) from (q0o (cs := #[(.string ky), (.string nm), (.slice A1 ts.length c1), (.int .i64 is'), (.slice A2 xs.length c2)]) (cs' := #[(.string ky), (.string nm), (.slice A1 ts.length c1), (.int .i64 is'), (.slice A3 ys.length c3)]) (q0o (cs := #[(.string ky), (.string nm), (.slice A1 ts.length c1), (.int .i64 is), (.slice A2 xs.length c2)]) (cs' := #[(.string ky), (.string nm), (.slice A1 ts.length c1), (.int .i64 is'), (.slice A2 xs.length c2)]) (q0o (cs := #[(.string ky), (.string nm), (.slice A1 ts.length c1), (.int .i64 is), (.slice A2 xs.length c2)]) (cs' := #[(.string ky), (.string nm), (.slice A1 ts.length c1), (.int .i64 is), (.slice A2 xs.length c2)]) (q0o (cs := #[(.string ky), (.string nm), (.slice A1 ts.length c1), (.int .i64 is), (.slice A2 xs.length c2)]) (cs' := #[(.string ky), (.string nm), (.slice A1 ts.length c1), (.int .i64 is), (.slice A2 xs.length c2)]) (q0o (cs := #[(.string ky), (.string nm), (.slice A1 ts.length c1), (.int .i64 is), (.slice A2 xs.length c2)]) (cs' := #[(.string ky), (.string nm), (.slice A1 ts.length c1), (.int .i64 is), (.slice A2 xs.length c2)]) B4.out 0 _ rfl) 1 _ rfl) 2 _ rfl) 3 _ rfl) 4 _ rfl)); have X6 := am (show (((((w3.setCell ⟨w.heap.size, 0, none⟩ (.string ky)).setCell ⟨w.heap.size, 1, none⟩ (.string nm)).setCell ⟨w.heap.size, 2, none⟩ (.slice A1 ts.length c1)).setCell ⟨w.heap.size, 3, none⟩ (.int .i64 is')).setCell ⟨w.heap.size, 4, none⟩ (.slice A3 ys.length c3)).heap[w.heap.size + 1]? = some (.cells (#[(.int .i64 a6)] : Array Value) 3 (0, 0)) from (q0l (q0l (q0l (q0l (q0l B6.out (by show w.heap.size + 1 ≠ w.heap.size; omega) _) (by show w.heap.size + 1 ≠ w.heap.size; omega) _) (by show w.heap.size + 1 ≠ w.heap.size; omega) _) (by show w.heap.size + 1 ≠ w.heap.size; omega) _) (by show w.heap.size + 1 ≠ w.heap.size; omega) _)); have X7 := am (show (((((w3.setCell ⟨w.heap.size, 0, none⟩ (.string ky)).setCell ⟨w.heap.size, 1, none⟩ (.string nm)).setCell ⟨w.heap.size, 2, none⟩ (.slice A1 ts.length c1)).setCell ⟨w.heap.size, 3, none⟩ (.int .i64 is')).setCell ⟨w.heap.size, 4, none⟩ (.slice A3 ys.length c3)).heap[w.heap.size + 1 + 1]? = some (.cells (#[(.func (.func m) #[] lb)] : Array Value) 74 (0, 0)) from (q0l (q0l (q0l (q0l (q0l B7.out (by show w.heap.size + 1 + 1 ≠ w.heap.size; omega) _) (by show w.heap.size + 1 + 1 ≠ w.heap.size; omega) _) (by show w.heap.size + 1 + 1 ≠ w.heap.size; omega) _) (by show w.heap.size + 1 + 1 ≠ w.heap.size; omega) _) (by show w.heap.size + 1 + 1 ≠ w.heap.size; omega) _)); have X8 := am (show (((((w3.setCell ⟨w.heap.size, 0, none⟩ (.string ky)).setCell ⟨w.heap.size, 1, none⟩ (.string nm)).setCell ⟨w.heap.size, 2, none⟩ (.slice A1 ts.length c1)).setCell ⟨w.heap.size, 3, none⟩ (.int .i64 is')).setCell ⟨w.heap.size, 4, none⟩ (.slice A3 ys.length c3)).heap[w.heap.size + 1 + 1 + 1]? = some (.cells (#[(.string (⟨#[]⟩ : ByteArray)), (.string (⟨#[]⟩ : ByteArray)), (.slice none 0 0), (.int .i64 0), (.slice none 0 0)] : Array Value) 27 (0, 0)) from (q0l (q0l (q0l (q0l (q0l B8.out (by show w.heap.size + 1 + 1 + 1 ≠ w.heap.size; omega) _) (by show w.heap.size + 1 + 1 + 1 ≠ w.heap.size; omega) _) (by show w.heap.size + 1 + 1 + 1 ≠ w.heap.size; omega) _) (by show w.heap.size + 1 + 1 + 1 ≠ w.heap.size; omega) _) (by show w.heap.size + 1 + 1 + 1 ≠ w.heap.size; omega) _)); have X9 := am (show (((((w3.setCell ⟨w.heap.size, 0, none⟩ (.string ky)).setCell ⟨w.heap.size, 1, none⟩ (.string nm)).setCell ⟨w.heap.size, 2, none⟩ (.slice A1 ts.length c1)).setCell ⟨w.heap.size, 3, none⟩ (.int .i64 is')).setCell ⟨w.heap.size, 4, none⟩ (.slice A3 ys.length c3)).heap[w.heap.size + 1 + 1 + 1 + 1]? = some (.cells (#[(.int .i64 0)] : Array Value) 29 (0, 0)) from (q0l (q0l (q0l (q0l (q0l B9.out (by show w.heap.size + 1 + 1 + 1 + 1 ≠ w.heap.size; omega) _) (by show w.heap.size + 1 + 1 + 1 + 1 ≠ w.heap.size; omega) _) (by show w.heap.size + 1 + 1 + 1 + 1 ≠ w.heap.size; omega) _) (by show w.heap.size + 1 + 1 + 1 + 1 ≠ w.heap.size; omega) _) (by show w.heap.size + 1 + 1 + 1 + 1 ≠ w.heap.size; omega) _)); have X3 := am (show q1c w (((((w3.setCell ⟨w.heap.size, 0, none⟩ (.string ky)).setCell ⟨w.heap.size, 1, none⟩ (.string nm)).setCell ⟨w.heap.size, 2, none⟩ (.slice A1 ts.length c1)).setCell ⟨w.heap.size, 3, none⟩ (.int .i64 is')).setCell ⟨w.heap.size, 4, none⟩ (.slice A3 ys.length c3)) A2 c2 xs (.slice A3 ys.length c3) ys from (q1c.set (q1c.set (q1c.set (q1c.set (q1c.set H3.out B4.out (by decide) _ _) (q0o (cs := #[(.string ky), (.string nm), (.slice A1 ts.length c1), (.int .i64 is), (.slice A2 xs.length c2)]) (cs' := #[(.string ky), (.string nm), (.slice A1 ts.length c1), (.int .i64 is), (.slice A2 xs.length c2)]) B4.out 0 _ rfl) (by decide) _ _) (q0o (cs := #[(.string ky), (.string nm), (.slice A1 ts.length c1), (.int .i64 is), (.slice A2 xs.length c2)]) (cs' := #[(.string ky), (.string nm), (.slice A1 ts.length c1), (.int .i64 is), (.slice A2 xs.length c2)]) (q0o (cs := #[(.string ky), (.string nm), (.slice A1 ts.length c1), (.int .i64 is), (.slice A2 xs.length c2)]) (cs' := #[(.string ky), (.string nm), (.slice A1 ts.length c1), (.int .i64 is), (.slice A2 xs.length c2)]) B4.out 0 _ rfl) 1 _ rfl) (by decide) _ _) (q0o (cs := #[(.string ky), (.string nm), (.slice A1 ts.length c1), (.int .i64 is), (.slice A2 xs.length c2)]) (cs' := #[(.string ky), (.string nm), (.slice A1 ts.length c1), (.int .i64 is), (.slice A2 xs.length c2)]) (q0o (cs := #[(.string ky), (.string nm), (.slice A1 ts.length c1), (.int .i64 is), (.slice A2 xs.length c2)]) (cs' := #[(.string ky), (.string nm), (.slice A1 ts.length c1), (.int .i64 is), (.slice A2 xs.length c2)]) (q0o (cs := #[(.string ky), (.string nm), (.slice A1 ts.length c1), (.int .i64 is), (.slice A2 xs.length c2)]) (cs' := #[(.string ky), (.string nm), (.slice A1 ts.length c1), (.int .i64 is), (.slice A2 xs.length c2)]) B4.out 0 _ rfl) 1 _ rfl) 2 _ rfl) (by decide) _ _) (q0o (cs := #[(.string ky), (.string nm), (.slice A1 ts.length c1), (.int .i64 is), (.slice A2 xs.length c2)]) (cs' := #[(.string ky), (.string nm), (.slice A1 ts.length c1), (.int .i64 is'), (.slice A2 xs.length c2)]) (q0o (cs := #[(.string ky), (.string nm), (.slice A1 ts.length c1), (.int .i64 is), (.slice A2 xs.length c2)]) (cs' := #[(.string ky), (.string nm), (.slice A1 ts.length c1), (.int .i64 is), (.slice A2 xs.length c2)]) (q0o (cs := #[(.string ky), (.string nm), (.slice A1 ts.length c1), (.int .i64 is), (.slice A2 xs.length c2)]) (cs' := #[(.string ky), (.string nm), (.slice A1 ts.length c1), (.int .i64 is), (.slice A2 xs.length c2)]) (q0o (cs := #[(.string ky), (.string nm), (.slice A1 ts.length c1), (.int .i64 is), (.slice A2 xs.length c2)]) (cs' := #[(.string ky), (.string nm), (.slice A1 ts.length c1), (.int .i64 is), (.slice A2 xs.length c2)]) B4.out 0 _ rfl) 1 _ rfl) 2 _ rfl) 3 _ rfl) (by decide) _ _)); have XB := am (show Below w.heap.size w (((((w3.setCell ⟨w.heap.size, 0, none⟩ (.string ky)).setCell ⟨w.heap.size, 1, none⟩ (.string nm)).setCell ⟨w.heap.size, 2, none⟩ (.slice A1 ts.length c1)).setCell ⟨w.heap.size, 3, none⟩ (.int .i64 is')).setCell ⟨w.heap.size, 4, none⟩ (.slice A3 ys.length c3)) from (q0n (q0n (q0n (q0n (q0n HB.out (Nat.le_refl _)) (Nat.le_refl _)) (Nat.le_refl _)) (Nat.le_refl _)) (Nat.le_refl _))); have p5 := am j0; have Y3 := am (q1c.below X3.out hb); have YB := am (q0j XB.out hb); have HS := am (show w.heap.size + 5 ≤ w5.heap.size by have b5 := hb.size; have b6 := j3.out; simp at b5; omega); have Y4 := am (q0b X4.out hb); have Y6 := am (q0b X6.out hb); have Y7 := am (q0b X7.out hb); have Y8 := am (q0b X8.out hb); have Y9 := am (q0b X9.out hb); clear HB H3 X3 XB hg j0 hb B4 X4 B6 X6 B7 X7 B8 X8 B9 X9 b0 b1 b2 b3 b4 m9 n0 n1 n2 i2; have B4 := Y4; have B6 := Y6; have B7 := Y7; have B8 := Y8; have B9 := Y9; have HB := YB; have H3 := Y3; clear YB Y3 Y4 Y6 Y7 Y8 Y9))
 refine wpIn_rangeFunc_ownH (w0 := w5) rfl (by omega) (gf := 78) (lb := #[.pointer (some ⟨gb, 0, none⟩)]) rfl trivial (enters_of Try.func78 (by kernel_rfl) rfl)
  (q5d 5 (by omega) gb ky nm A1 ts.length c1 is' A3 c3 ys w5 w5 (q1c.reads H3.out HC.out HB.out) (by have := k1.out; (try dsimp only at this); omega) (Below.refl _ _) p5.out) belowK_t (belowK_b (Nat.le_refl _)) (Below.refl _ _) (fun _ => rfl)
  (fun g5 W => ((W.heap[w.heap.size]? = some (.cells (#[(.string ky), (.string nm), (.slice A1 ts.length c1), (.int .i64 is'), (.slice A3 ys.length c3)] : Array Value) 27 (0, 0))) ∧ (W.heap[w.heap.size + 1]? = some (.cells (#[(.int .i64 a6)] : Array Value) 3 (0, 0))) ∧ (W.heap[w.heap.size + 1 + 1]? = some (.cells (#[(.func (.func m) #[] lb)] : Array Value) 74 (0, 0))) ∧ (W.heap[w.heap.size + 1 + 1 + 1]? = some (.cells (#[(.string (⟨#[]⟩ : ByteArray)), (.string (⟨#[]⟩ : ByteArray)), (.slice none 0 0), (.int .i64 0), (.slice none 0 0)] : Array Value) 27 (0, 0))) ∧ (W.heap[w.heap.size + 1 + 1 + 1 + 1]? = some (.cells (#[(.int .i64 0)] : Array Value) 29 (0, 0)))) ∧ (Below w.heap.size w W ∧ (Below w5.heap.size w5 W ∧ ∀ y ∈ g5, ¬ isHeld ys a6 y)))
  (fun c g5 W => ∃ c7 x p, g5 = c7 ++ [x] ∧ (∀ y ∈ c7, ¬ isHeld ys a6 y) ∧ isHeld ys a6 x ∧ i8 (q0e ts (x.val : Int)) (q0c ys (x.val : Int)) = some p ∧ c = .ret ∧ Below w.heap.size w W ∧ ((p.2 ≠ 0 ∧ W.heap[w.heap.size + 1 + 1 + 1]? = some (.cells (#[(.string (⟨#[]⟩ : ByteArray)), (.string (⟨#[]⟩ : ByteArray)), (.slice none 0 0), (.int .i64 0), (.slice none 0 0)] : Array Value) 27 (0, 0)) ∧ W.heap[w.heap.size + 1 + 1 + 1 + 1]? = some (.cells (#[(.int .i64 p.2)] : Array Value) 29 (0, 0))) ∨ (p.2 = 0 ∧ ∃ q A c, mendF ts is' (ys.set x.val p.1) = some q ∧ W.heap[w.heap.size + 1 + 1 + 1]? = some (.cells (#[(.string ky), (.string nm), (.slice A1 ts.length c1), (.int .i64 q.1), (.slice A q.2.length c)] : Array Value) 27 (0, 0)) ∧ W.heap[w.heap.size + 1 + 1 + 1 + 1]? = some (.cells (#[(.int .i64 0)] : Array Value) 29 (0, 0)) ∧ Kd.R k51 51 W w.heap.size (fun _ => True) (.slice A q.2.length c) q.2)))
  (OwnFrom.and (Own.from (fun s A B l5 hs hg hr => ⟨q1d hs.1 hg hr, q1d hs.2.1 hg hr, q1d hs.2.2.1 hg hr, q1d hs.2.2.2.1 hg hr, q1d hs.2.2.2.2 hg hr⟩) _) (OwnFrom.and (ownFrom_below (Nat.le_refl _) (by have := HS.out; omega)) (OwnFrom.and (ownFrom_below (Nat.le_refl _) (Nat.le_refl _)) (fun _ _ _ _ hs _ _ => hs))))
  (fun c => fun s A B l5 hs hg hr => by
   obtain ⟨c7, x, p, e1, e2, e3, e4, e5, e6, e7⟩ := hs
   refine ⟨c7, x, p, e1, e2, e3, e4, e5, (ownFrom_below (β := Unit) (Nat.le_refl _) (by have := HS.out; omega)) () A B l5 e6 hg hr, ?_⟩
   have j2 := fun r e => (hr r e).2
   rcases e7 with ⟨h1, h2, h3⟩ | ⟨h1, q, Aq, cq, h2, h3, h4, h5⟩
   ·
    exact .inl ⟨h1, q1d h2 hg j2, q1d h3 hg j2⟩
   exact .inr ⟨h1, q, Aq, cq, h2, q1d h3 hg j2, q1d h4 hg j2, own_R h5 hg j2⟩)
  ⟨⟨B4.out, B6.out, B7.out, B8.out, B9.out⟩, HB.out, Below.refl _ _, fun y hy => by cases hy⟩
  (fun x a' W => ∃ Bx, w5.heap.size ≤ Bx ∧ W.heap[Bx]? = some (.cells #[.int .i64 (q0c ys (x.val : Int)).f0, .int .i64 (q0c ys (x.val : Int)).f1, .int .i64 (q0c ys (x.val : Int)).f2, .int .i64 (q0c ys (x.val : Int)).f3, .string (q0c ys (x.val : Int)).f4] 51 (0, 0)) ∧ a' = { tmps := #[.agg #[(.string ky), (.string nm), (.slice A1 ts.length c1), (.int .i64 is), (.slice A2 xs.length c2)], .int .i64 now, .int .i64 a6, .func (.func m) #[] lb, .pointer (some ⟨w.heap.size, 0, none⟩), undef, .pointer (some ⟨w.heap.size + 1, 0, none⟩), .pointer (some ⟨w.heap.size + 1 + 1, 0, none⟩), .pointer (some ⟨w.heap.size + 1 + 1 + 1, 0, none⟩), .pointer (some ⟨w.heap.size + 1 + 1 + 1 + 1, 0, none⟩), .int .i64 0, .int .i64 ((x.val : Nat) : Int), .pointer (some ⟨Bx, 0, none⟩), undef, undef, .tuple #[.agg #[(.string ky), (.string nm), (.slice A1 ts.length c1), (.int .i64 is'), (.slice A3 ys.length c3)], .int .i64 0], .agg #[(.string ky), (.string nm), (.slice A1 ts.length c1), (.int .i64 is), (.slice A2 xs.length c2)], .int .i64 now, .tuple #[.agg #[(.string ky), (.string nm), (.slice A1 ts.length c1), (.int .i64 is'), (.slice A3 ys.length c3)], .int .i64 0], .agg #[(.string ky), (.string nm), (.slice A1 ts.length c1), (.int .i64 is'), (.slice A3 ys.length c3)], .int .i64 0, .int .i64 0, .bool false, undef, undef, .agg #[(.string ky), (.string nm), (.slice A1 ts.length c1), (.int .i64 is'), (.slice A3 ys.length c3)], .func (.func 78) #[] #[.pointer (some ⟨gb, 0, none⟩)], .int .i64 ((x.val : Nat) : Int), .agg #[.int .i64 (q0c ys (x.val : Int)).f0, .int .i64 (q0c ys (x.val : Int)).f1, .int .i64 (q0c ys (x.val : Int)).f2, .int .i64 (q0c ys (x.val : Int)).f3, .string (q0c ys (x.val : Int)).f4], undef, undef, undef, undef, undef, undef, undef, undef, undef, undef, undef, undef, undef, undef, undef, undef, undef, undef, undef, undef, undef, undef, undef, undef, undef, undef, undef, undef, undef, undef, undef, undef, undef, undef, undef, undef, undef], defers := [] })
  (fun x a' => Own.from (fun s A B l5 hs hg hr => by obtain ⟨Bx, h1, h2, h3⟩ := hs; exact ⟨Bx, h1, q1d h2 hg hr, h3⟩) _) ?assign ?body ?done ?stop
 case assign =>
  rintro l g5 x W K ⟨⟨h4, h6, h7, h8, h9⟩, hB, h0, hN⟩ hK
  have Z4 := am h4
  have Z6 := am h6
  have Z7 := am h7
  have Z8 := am h8
  have Z9 := am h9
  have b9 := am hB
  have a8 := am h0
  have i1 := am hN
  clear h4 h6 h7 h8 h9 hB h0 hN
  dsimp only [encF]
  gi_wp2
  exact hK _ _ ((KeepsOthers.alloc _ _).from _) ((Below.refl _ W).alloc a8.out.size _) ⟨⟨q0h Z4.out _, q0h Z6.out _, q0h Z7.out _, q0h Z8.out _, q0h Z9.out _⟩, q0d b9.out _, q0d a8.out _, i1.out⟩ ⟨W.heap.size, a8.out.size, q1j _ _, rfl⟩
 case body =>
  rintro l g5 x a' W hl hr ⟨⟨h4, h6, h7, h8, h9⟩, hB, h0, hN⟩ ⟨Bx, n4, bX, rfl⟩ q4
  have Z4 := am h4
  have Z6 := am h6
  have Z7 := am h7
  have Z8 := am h8
  have Z9 := am h9
  have b9 := am hB
  have a8 := am h0
  have i1 := am hN
  have HX := am bX
  have s8 := am n4
  clear h4 h6 h7 h8 h9 hB h0 hN bX hr hl q4 n4
  have x0 : W.cell? ⟨Bx, 0, none⟩ = some (.int .i64 (q0c ys (x.val : Int)).f0) := bc HX.out
  have x3 : W.cell? ⟨Bx, 3, none⟩ = some (.int .i64 (q0c ys (x.val : Int)).f3) := bc HX.out
  have k6 : W.cell? ⟨w.heap.size + 1, 0, none⟩ = some (.int .i64 a6) := bc Z6.out
  by_cases q0 : (q0c ys (x.val : Int)).f0 = 2
  case neg =>
   have k2 : q0f (¬ isHeld ys a6 x) := ⟨fun h => q0 h.1⟩
   have E1 := beq_eq_false_iff_ne.2 q0
   gi_wp2
   refine ⟨KeepsFrom.refl _ _, Below.refl _ _, ⟨Z4.out, Z6.out, Z7.out, Z8.out, Z9.out⟩, b9.out, a8.out, fun y hy => ?_⟩
   rcases List.mem_append.1 hy with hy | hy
   ·
    exact i1.out y hy
   obtain rfl := List.mem_singleton.1 hy
   exact k2.out
  by_cases q3 : (q0c ys (x.val : Int)).f3 = a6
  case neg =>
   have k2 : q0f (¬ isHeld ys a6 x) := ⟨fun h => q3 h.2⟩
   have E1 := beq_eq_false_iff_ne.2 q3
   gi_wp2
   refine ⟨KeepsFrom.refl _ _, Below.refl _ _, ⟨Z4.out, Z6.out, Z7.out, Z8.out, Z9.out⟩, b9.out, a8.out, fun y hy => ?_⟩
   rcases List.mem_append.1 hy with hy | hy
   ·
    exact i1.out y hy
   obtain rfl := List.mem_singleton.1 hy
   exact k2.out
  have hx : isHeld ys a6 x := ⟨q0, q3⟩
  obtain ⟨p, hp, hq⟩ := goodHeld_at HG.out x hx
  have m6 := am hx
  have m0 := am q0
  have E1 := beq_iff_eq.2 q0
  have j3 := am q3
  have E3 := beq_iff_eq.2 q3
  have HI := am x.isLt
  have HP := am hp
  have HQ := am hq
  clear hx hp hq
  have x1 : W.cell? ⟨Bx, 1, none⟩ = some (.int .i64 (q0c ys (x.val : Int)).f1) := bc HX.out
  have x2 : W.cell? ⟨Bx, 2, none⟩ = some (.int .i64 (q0c ys (x.val : Int)).f2) := bc HX.out
  have x4 : W.cell? ⟨Bx, 4, none⟩ = some (.string (q0c ys (x.val : Int)).f4) := bc HX.out
  have p0 : (0 : Int) ≤ ((x.val : Nat) : Int) := by omega
  have p1 : ((x.val : Nat) : Int) < (ys.length : Int) := by have := HI.out; omega
  have p2 : ((x.val : Nat) : Int) < (ts.length : Int) := by have h_ := k1.out; have := HI.out; (try dsimp only at h_); omega
  obtain ⟨ad, A0, c0, eA, a0, a1, a2, a3, n7, n6⟩ := q1q (Kd.C_below HT.out b9.out) ((x.val : Nat) : Int) p0 p2
  rw [Int.toNat_natCast] at a0 a1 a2 a3
  have m4 := am n7
  have m2 := am n6
  clear n7 n6
  subst eA
  have k7 : W.cell? ⟨w.heap.size + 1 + 1, 0, none⟩ = some (.func (.func m) #[] lb) := bc Z7.out
  have i4 : W.cell? ⟨w.heap.size, 2, none⟩ = some (.slice (some ad) ts.length c1) := bc Z4.out
  gi_wp2
  clear q0 q3 E1 E3
  generalize o4 : q0c ys ((x.val : Nat) : Int) = s at *
  generalize o5 : q0e ts ((x.val : Nat) : Int) = t at *
  have m1 := am o4
  have m5 := am o5
  clear o4 o5
  have a4 := am (fun (W' : World) (hW : Below W.heap.size W W') (a : Addr) (v : Value) (h : W.cell? a = some v) => show W'.cell? a = some v from (hW.cell (World.block_lt_of_cell? W _ h)).trans h)
  refine q1v (n := 15) (S := fun w' => w'.cell? ⟨w.heap.size + 1 + 1, 0, none⟩ = some (.func (.func m) #[] lb) ∧ w'.cell? ⟨w.heap.size, 2, none⟩ = some (.slice (some ad) ts.length c1) ∧ w'.cell? (ad.add (x.val * 4)) = some (.slice A0 t.f0.length c0) ∧ w'.cell? ⟨(ad.add (x.val * 4)).block, (ad.add (x.val * 4)).off + 1, none⟩ = some (.int .i64 t.f1) ∧ w'.cell? ⟨(ad.add (x.val * 4)).block, (ad.add (x.val * 4)).off + 2, none⟩ = some (.int .i64 t.f2) ∧ w'.cell? ⟨(ad.add (x.val * 4)).block, (ad.add (x.val * 4)).off + 3, none⟩ = some (.int .i64 t.f3) ∧ w'.cell? ⟨Bx, 0, none⟩ = some (.int .i64 s.f0) ∧ w'.cell? ⟨Bx, 1, none⟩ = some (.int .i64 s.f1) ∧ w'.cell? ⟨Bx, 2, none⟩ = some (.int .i64 s.f2) ∧ w'.cell? ⟨Bx, 3, none⟩ = some (.int .i64 s.f3) ∧ w'.cell? ⟨Bx, 4, none⟩ = some (.string s.f4)) (ds := [13]) (ba 15 0) (by kernel_rfl) rfl rfl ⟨(a4.out _ (q0a (Below.refl _ _)) _ _ k7), (a4.out _ (q0a (Below.refl _ _)) _ _ i4), (a4.out _ (q0a (Below.refl _ _)) _ _ a0), (a4.out _ (q0a (Below.refl _ _)) _ _ a1), (a4.out _ (q0a (Below.refl _ _)) _ _ a2), (a4.out _ (q0a (Below.refl _ _)) _ _ a3), (a4.out _ (q0a (Below.refl _ _)) _ _ x0), (a4.out _ (q0a (Below.refl _ _)) _ _ x1), (a4.out _ (q0a (Below.refl _ _)) _ _ x2), (a4.out _ (q0a (Below.refl _ _)) _ _ x3), (a4.out _ (q0a (Below.refl _ _)) _ _ x4)⟩ ?_ (by kernel_rfl) (fun a9 => ?_)
  ·
   rintro ⟨_, _, h_⟩; exact h_
  refine ph 1 40 (ba 15 2) ?_
  refine ph 2 41 (ba 15 6) ?_
  refine ph 4 43 (ba 15 22) ?_
  refine th 0 39 (ba 15 23) a9 ?_
  refine th 3 42 (ba 15 31) a9 ?_
  refine ph 5 44 (ba 15 63) ?_
  refine th 6 45 (ba 15 127) a9 ?_
  refine th 7 46 (ba 15 255) a9 ?_
  refine join_ (σ := Nat) 2 (ba 15 8191) (fun s_ => [(47, .tuple #[.agg #[(.int .i64 p.1.f0), (.int .i64 p.1.f1), (.int .i64 p.1.f2), (.int .i64 p.1.f3), (.string p.1.f4)], .int .i64 p.2]), (38, .tuple #[.agg #[(.int .i64 p.1.f0), (.int .i64 p.1.f1), (.int .i64 p.1.f2), (.int .i64 p.1.f3), (.string p.1.f4)], .int .i64 p.2]), (48, .agg #[(.int .i64 p.1.f0), (.int .i64 p.1.f1), (.int .i64 p.1.f2), (.int .i64 p.1.f3), (.string p.1.f4)]), (49, .int .i64 p.2), (13, .pointer (some ⟨s_, 0, none⟩))]) (fun s_ w' => (w'.cell? ⟨w.heap.size + 1 + 1, 0, none⟩ = some (.func (.func m) #[] lb) ∧ w'.cell? ⟨w.heap.size, 2, none⟩ = some (.slice (some ad) ts.length c1) ∧ w'.cell? (ad.add (x.val * 4)) = some (.slice A0 t.f0.length c0) ∧ w'.cell? ⟨(ad.add (x.val * 4)).block, (ad.add (x.val * 4)).off + 1, none⟩ = some (.int .i64 t.f1) ∧ w'.cell? ⟨(ad.add (x.val * 4)).block, (ad.add (x.val * 4)).off + 2, none⟩ = some (.int .i64 t.f2) ∧ w'.cell? ⟨(ad.add (x.val * 4)).block, (ad.add (x.val * 4)).off + 3, none⟩ = some (.int .i64 t.f3) ∧ w'.cell? ⟨Bx, 0, none⟩ = some (.int .i64 s.f0) ∧ w'.cell? ⟨Bx, 1, none⟩ = some (.int .i64 s.f1) ∧ w'.cell? ⟨Bx, 2, none⟩ = some (.int .i64 s.f2) ∧ w'.cell? ⟨Bx, 3, none⟩ = some (.int .i64 s.f3) ∧ w'.cell? ⟨Bx, 4, none⟩ = some (.string s.f4)) ∧ W.heap.size ≤ s_ ∧ w'.heap[s_]? = some (.cells #[(.int .i64 0), (.int .i64 0), (.int .i64 0), (.int .i64 0), (.string (⟨#[]⟩ : ByteArray))] 51 (0, 0)) ∧ Below W.heap.size W w') ?_ ?_
  rotate_left
  ·
   intro g2
   refine two_ (i := 8) (j := 12) (Ni := some 47) (Nj := some 13) (ba 15 511) (ba 15 4351) rfl rfl rfl rfl (by kernel_rfl) (by decide) (by decide) (fun K hK => ?_) (fun K hK => ?_)
   ·
    skip
    refine goesV_ HF.out.1 HF.out.2.1 HF.out.2.2 #[.agg #[.slice A0 t.f0.length c0, .int .i64 t.f1, .int .i64 t.f2, .int .i64 t.f3], .agg #[.int .i64 s.f0, .int .i64 s.f1, .int .i64 s.f2, .int .i64 s.f3, .string s.f4]] (by rfl) rfl rfl (by rfl) (by simp only [List.map_toArray, List.map_cons, List.map_nil, m0.out, j3.out]; rfl) ?_
    with_reducible refine (l7.out t s p A0 c0 HP.out m4.out _ (by (with_reducible repeat (first | apply q0d | apply q0a)); exact b9.out) (Kd.C_below m2.out (by (with_reducible repeat (first | apply q0d | apply q0a)); exact Below.refl W.heap.size W))).mono ?_
    rintro e w7 ⟨rfl, hb⟩
    refine ⟨_, rfl, ?_⟩
    have a7 := am (q0j (by (with_reducible repeat (first | apply q0d | apply q0a)); exact Below.refl W.heap.size W) hb)
    clear hb
    refine hK.out _ _ ⟨(a4.out _ (a7.out) _ _ k7), (a4.out _ (a7.out) _ _ i4), (a4.out _ (a7.out) _ _ a0), (a4.out _ (a7.out) _ _ a1), (a4.out _ (a7.out) _ _ a2), (a4.out _ (a7.out) _ _ a3), (a4.out _ (a7.out) _ _ x0), (a4.out _ (a7.out) _ _ x1), (a4.out _ (a7.out) _ _ x2), (a4.out _ (a7.out) _ _ x3), (a4.out _ (a7.out) _ _ x4)⟩ (fun a9 => ?_)
    clear hK K
    refine nh ?_
    refine ph 9 38 (ba 15 1023) ?_
    refine ph 10 48 (ba 15 2047) ?_
    refine ph 11 49 (ba 15 4095) ?_
    refine oh 12 13 (ba 15 8191) fun K hK => ?_
    refine value_ (w1 := ?_) (v := ?_) (by rfl) rfl ?_ ?_
    rotate_left 2
    ·
     go_simp
     constructor
     ·
      rfl
     rfl
    refine hK.out _ _ ⟨(a4.out _ (q0d (a7.out) _) _ _ k7), (a4.out _ (q0d (a7.out) _) _ _ i4), (a4.out _ (q0d (a7.out) _) _ _ a0), (a4.out _ (q0d (a7.out) _) _ _ a1), (a4.out _ (q0d (a7.out) _) _ _ a2), (a4.out _ (q0d (a7.out) _) _ _ a3), (a4.out _ (q0d (a7.out) _) _ _ x0), (a4.out _ (q0d (a7.out) _) _ _ x1), (a4.out _ (q0d (a7.out) _) _ _ x2), (a4.out _ (q0d (a7.out) _) _ _ x3), (a4.out _ (q0d (a7.out) _) _ _ x4)⟩ (fun a9 => ?_)
    clear hK K
    refine nh ?_
    exact norm_ (by simp only [putAll, Act.put, List.setIfInBounds_toArray, List.set_cons_zero, List.set_cons_succ]) (g2 w7.heap.size _ ⟨a9, a7.out.size, q1j w7 (.cells #[(.int .i64 0), (.int .i64 0), (.int .i64 0), (.int .i64 0), (.string (⟨#[]⟩ : ByteArray))] 51), q0d a7.out _⟩)
   skip
   refine value_ (w1 := ?_) (v := ?_) (by rfl) rfl ?_ ?_
   rotate_left 2
   ·
    go_simp
    constructor
    ·
     rfl
    rfl
   refine hK.out _ _ ⟨(a4.out _ (q0d (q0a (Below.refl _ _)) _) _ _ k7), (a4.out _ (q0d (q0a (Below.refl _ _)) _) _ _ i4), (a4.out _ (q0d (q0a (Below.refl _ _)) _) _ _ a0), (a4.out _ (q0d (q0a (Below.refl _ _)) _) _ _ a1), (a4.out _ (q0d (q0a (Below.refl _ _)) _) _ _ a2), (a4.out _ (q0d (q0a (Below.refl _ _)) _) _ _ a3), (a4.out _ (q0d (q0a (Below.refl _ _)) _) _ _ x0), (a4.out _ (q0d (q0a (Below.refl _ _)) _) _ _ x1), (a4.out _ (q0d (q0a (Below.refl _ _)) _) _ _ x2), (a4.out _ (q0d (q0a (Below.refl _ _)) _) _ _ x3), (a4.out _ (q0d (q0a (Below.refl _ _)) _) _ _ x4)⟩ (fun a9 => ?_)
   clear hK K
   refine nh ?_
   refine oh 8 47 (ba 15 4607) fun K hK => ?_
   refine goesV_ HF.out.1 HF.out.2.1 HF.out.2.2 #[.agg #[.slice A0 t.f0.length c0, .int .i64 t.f1, .int .i64 t.f2, .int .i64 t.f3], .agg #[.int .i64 s.f0, .int .i64 s.f1, .int .i64 s.f2, .int .i64 s.f3, .string s.f4]] (by rfl) rfl rfl (by rfl) (by simp only [List.map_toArray, List.map_cons, List.map_nil, m0.out, j3.out]; rfl) ?_
   with_reducible refine (l7.out t s p A0 c0 HP.out m4.out _ (by (with_reducible repeat (first | apply q0d | apply q0a)); exact b9.out) (Kd.C_below m2.out (by (with_reducible repeat (first | apply q0d | apply q0a)); exact Below.refl W.heap.size W))).mono ?_
   rintro e w7 ⟨rfl, hb⟩
   refine ⟨_, rfl, ?_⟩
   have a7 := am (q0j (by (with_reducible repeat (first | apply q0d | apply q0a)); exact Below.refl W.heap.size W) hb)
   have p6 := am (q0b (show (W.alloc (.cells #[(.int .i64 0), (.int .i64 0), (.int .i64 0), (.int .i64 0), (.string (⟨#[]⟩ : ByteArray))] 51)).drew.heap[W.heap.size]? = some (.cells #[(.int .i64 0), (.int .i64 0), (.int .i64 0), (.int .i64 0), (.string (⟨#[]⟩ : ByteArray))] 51 (0, 0)) from q0g (q1j W (.cells #[(.int .i64 0), (.int .i64 0), (.int .i64 0), (.int .i64 0), (.string (⟨#[]⟩ : ByteArray))] 51))) hb)
   clear hb
   refine hK.out _ _ ⟨(a4.out _ (a7.out) _ _ k7), (a4.out _ (a7.out) _ _ i4), (a4.out _ (a7.out) _ _ a0), (a4.out _ (a7.out) _ _ a1), (a4.out _ (a7.out) _ _ a2), (a4.out _ (a7.out) _ _ a3), (a4.out _ (a7.out) _ _ x0), (a4.out _ (a7.out) _ _ x1), (a4.out _ (a7.out) _ _ x2), (a4.out _ (a7.out) _ _ x3), (a4.out _ (a7.out) _ _ x4)⟩ (fun a9 => ?_)
   clear hK K
   refine nh ?_
   refine ph 9 38 (ba 15 5119) ?_
   refine ph 10 48 (ba 15 6143) ?_
   refine ph 11 49 (ba 15 8191) ?_
   exact norm_ (by simp only [putAll, Act.put, List.setIfInBounds_toArray, List.set_cons_zero, List.set_cons_succ]) (g2 W.heap.size _ ⟨a9, Nat.le_refl _, p6.out, a7.out⟩)
  rintro a5 w7 ⟨n5, o2, n8, n9⟩
  have b7 := am o2
  have BP := am n8
  have a7 := am n9
  have a9 := n5
  clear o2 n8 n9 n5
  have y0 : w7.cell? ⟨a5, 0, none⟩ = some (.int .i64 0) := bc BP.out
  have y1 : w7.cell? ⟨a5, 1, none⟩ = some (.int .i64 0) := bc BP.out
  have y2 : w7.cell? ⟨a5, 2, none⟩ = some (.int .i64 0) := bc BP.out
  have y3 : w7.cell? ⟨a5, 3, none⟩ = some (.int .i64 0) := bc BP.out
  have y4 : w7.cell? ⟨a5, 4, none⟩ = some (.string (⟨#[]⟩ : ByteArray)) := bc BP.out
  have s3 := q0k BP.out 0
  have s4 := q0k BP.out 1
  have s5 := q0k BP.out 2
  have s6 := q0k BP.out 3
  have s7 := q0k BP.out 4
  refine norm_ (a' := ?_) ?_ ?_
  rotate_left
  ·
   simp only [putAll, Act.put, List.setIfInBounds_toArray, List.set_cons_zero, List.set_cons_succ]
   rfl
  refine last_ (i := 13) (N := none) (ba 15 16383) rfl rfl (by kernel_rfl) (by decide) (fun K hK => ?_)
  refine skip_ (w1 := ?_) (by rfl) rfl ?_ ?_
  rotate_left
  ·
   go_simp
   rfl
  refine hK.out _ _ ?_
  clear hK K
  refine ph 14 14 (ba 15 32767) ?_
  refine q2a (by kernel_rfl) ?_
  have X4 := am (show (((((w7.setCell ⟨a5, 0, none⟩ (.int .i64 p.1.f0)).setCell ⟨a5, 1, none⟩ (.int .i64 p.1.f1)).setCell ⟨a5, 2, none⟩ (.int .i64 p.1.f2)).setCell ⟨a5, 3, none⟩ (.int .i64 p.1.f3)).setCell ⟨a5, 4, none⟩ (.string p.1.f4)).heap[w.heap.size]? = some (.cells (#[(.string ky), (.string nm), (.slice (some ad) ts.length c1), (.int .i64 is'), (.slice A3 ys.length c3)] : Array Value) 27 (0, 0)) from (q0l (q0l (q0l (q0l (q0l (q0b Z4.out a7.out) (by have b5 := b7.out; have b6 := a8.out.size; have b8 := HS.out; show w.heap.size ≠ a5; omega) _) (by have b5 := b7.out; have b6 := a8.out.size; have b8 := HS.out; show w.heap.size ≠ a5; omega) _) (by have b5 := b7.out; have b6 := a8.out.size; have b8 := HS.out; show w.heap.size ≠ a5; omega) _) (by have b5 := b7.out; have b6 := a8.out.size; have b8 := HS.out; show w.heap.size ≠ a5; omega) _) (by have b5 := b7.out; have b6 := a8.out.size; have b8 := HS.out; show w.heap.size ≠ a5; omega) _))
  have X6 := am (show (((((w7.setCell ⟨a5, 0, none⟩ (.int .i64 p.1.f0)).setCell ⟨a5, 1, none⟩ (.int .i64 p.1.f1)).setCell ⟨a5, 2, none⟩ (.int .i64 p.1.f2)).setCell ⟨a5, 3, none⟩ (.int .i64 p.1.f3)).setCell ⟨a5, 4, none⟩ (.string p.1.f4)).heap[w.heap.size + 1]? = some (.cells (#[(.int .i64 a6)] : Array Value) 3 (0, 0)) from (q0l (q0l (q0l (q0l (q0l (q0b Z6.out a7.out) (by have b5 := b7.out; have b6 := a8.out.size; have b8 := HS.out; show w.heap.size + 1 ≠ a5; omega) _) (by have b5 := b7.out; have b6 := a8.out.size; have b8 := HS.out; show w.heap.size + 1 ≠ a5; omega) _) (by have b5 := b7.out; have b6 := a8.out.size; have b8 := HS.out; show w.heap.size + 1 ≠ a5; omega) _) (by have b5 := b7.out; have b6 := a8.out.size; have b8 := HS.out; show w.heap.size + 1 ≠ a5; omega) _) (by have b5 := b7.out; have b6 := a8.out.size; have b8 := HS.out; show w.heap.size + 1 ≠ a5; omega) _))
  have X7 := am (show (((((w7.setCell ⟨a5, 0, none⟩ (.int .i64 p.1.f0)).setCell ⟨a5, 1, none⟩ (.int .i64 p.1.f1)).setCell ⟨a5, 2, none⟩ (.int .i64 p.1.f2)).setCell ⟨a5, 3, none⟩ (.int .i64 p.1.f3)).setCell ⟨a5, 4, none⟩ (.string p.1.f4)).heap[w.heap.size + 1 + 1]? = some (.cells (#[(.func (.func m) #[] lb)] : Array Value) 74 (0, 0)) from (q0l (q0l (q0l (q0l (q0l (q0b Z7.out a7.out) (by have b5 := b7.out; have b6 := a8.out.size; have b8 := HS.out; show w.heap.size + 1 + 1 ≠ a5; omega) _) (by have b5 := b7.out; have b6 := a8.out.size; have b8 := HS.out; show w.heap.size + 1 + 1 ≠ a5; omega) _) (by have b5 := b7.out; have b6 := a8.out.size; have b8 := HS.out; show w.heap.size + 1 + 1 ≠ a5; omega) _) (by have b5 := b7.out; have b6 := a8.out.size; have b8 := HS.out; show w.heap.size + 1 + 1 ≠ a5; omega) _) (by have b5 := b7.out; have b6 := a8.out.size; have b8 := HS.out; show w.heap.size + 1 + 1 ≠ a5; omega) _))
  have X8 := am (show (((((w7.setCell ⟨a5, 0, none⟩ (.int .i64 p.1.f0)).setCell ⟨a5, 1, none⟩ (.int .i64 p.1.f1)).setCell ⟨a5, 2, none⟩ (.int .i64 p.1.f2)).setCell ⟨a5, 3, none⟩ (.int .i64 p.1.f3)).setCell ⟨a5, 4, none⟩ (.string p.1.f4)).heap[w.heap.size + 1 + 1 + 1]? = some (.cells (#[(.string (⟨#[]⟩ : ByteArray)), (.string (⟨#[]⟩ : ByteArray)), (.slice none 0 0), (.int .i64 0), (.slice none 0 0)] : Array Value) 27 (0, 0)) from (q0l (q0l (q0l (q0l (q0l (q0b Z8.out a7.out) (by have b5 := b7.out; have b6 := a8.out.size; have b8 := HS.out; show w.heap.size + 1 + 1 + 1 ≠ a5; omega) _) (by have b5 := b7.out; have b6 := a8.out.size; have b8 := HS.out; show w.heap.size + 1 + 1 + 1 ≠ a5; omega) _) (by have b5 := b7.out; have b6 := a8.out.size; have b8 := HS.out; show w.heap.size + 1 + 1 + 1 ≠ a5; omega) _) (by have b5 := b7.out; have b6 := a8.out.size; have b8 := HS.out; show w.heap.size + 1 + 1 + 1 ≠ a5; omega) _) (by have b5 := b7.out; have b6 := a8.out.size; have b8 := HS.out; show w.heap.size + 1 + 1 + 1 ≠ a5; omega) _))
  have X9 := am (show (((((w7.setCell ⟨a5, 0, none⟩ (.int .i64 p.1.f0)).setCell ⟨a5, 1, none⟩ (.int .i64 p.1.f1)).setCell ⟨a5, 2, none⟩ (.int .i64 p.1.f2)).setCell ⟨a5, 3, none⟩ (.int .i64 p.1.f3)).setCell ⟨a5, 4, none⟩ (.string p.1.f4)).heap[w.heap.size + 1 + 1 + 1 + 1]? = some (.cells (#[(.int .i64 0)] : Array Value) 29 (0, 0)) from (q0l (q0l (q0l (q0l (q0l (q0b Z9.out a7.out) (by have b5 := b7.out; have b6 := a8.out.size; have b8 := HS.out; show w.heap.size + 1 + 1 + 1 + 1 ≠ a5; omega) _) (by have b5 := b7.out; have b6 := a8.out.size; have b8 := HS.out; show w.heap.size + 1 + 1 + 1 + 1 ≠ a5; omega) _) (by have b5 := b7.out; have b6 := a8.out.size; have b8 := HS.out; show w.heap.size + 1 + 1 + 1 + 1 ≠ a5; omega) _) (by have b5 := b7.out; have b6 := a8.out.size; have b8 := HS.out; show w.heap.size + 1 + 1 + 1 + 1 ≠ a5; omega) _) (by have b5 := b7.out; have b6 := a8.out.size; have b8 := HS.out; show w.heap.size + 1 + 1 + 1 + 1 ≠ a5; omega) _))
  have XP := am (show (((((w7.setCell ⟨a5, 0, none⟩ (.int .i64 p.1.f0)).setCell ⟨a5, 1, none⟩ (.int .i64 p.1.f1)).setCell ⟨a5, 2, none⟩ (.int .i64 p.1.f2)).setCell ⟨a5, 3, none⟩ (.int .i64 p.1.f3)).setCell ⟨a5, 4, none⟩ (.string p.1.f4)).heap[a5]? = some (.cells #[(.int .i64 p.1.f0), (.int .i64 p.1.f1), (.int .i64 p.1.f2), (.int .i64 p.1.f3), (.string p.1.f4)] 51 (0, 0)) from (q0o (cs := #[(.int .i64 p.1.f0), (.int .i64 p.1.f1), (.int .i64 p.1.f2), (.int .i64 p.1.f3), (.string (⟨#[]⟩ : ByteArray))]) (cs' := #[(.int .i64 p.1.f0), (.int .i64 p.1.f1), (.int .i64 p.1.f2), (.int .i64 p.1.f3), (.string p.1.f4)]) (q0o (cs := #[(.int .i64 p.1.f0), (.int .i64 p.1.f1), (.int .i64 p.1.f2), (.int .i64 0), (.string (⟨#[]⟩ : ByteArray))]) (cs' := #[(.int .i64 p.1.f0), (.int .i64 p.1.f1), (.int .i64 p.1.f2), (.int .i64 p.1.f3), (.string (⟨#[]⟩ : ByteArray))]) (q0o (cs := #[(.int .i64 p.1.f0), (.int .i64 p.1.f1), (.int .i64 0), (.int .i64 0), (.string (⟨#[]⟩ : ByteArray))]) (cs' := #[(.int .i64 p.1.f0), (.int .i64 p.1.f1), (.int .i64 p.1.f2), (.int .i64 0), (.string (⟨#[]⟩ : ByteArray))]) (q0o (cs := #[(.int .i64 p.1.f0), (.int .i64 0), (.int .i64 0), (.int .i64 0), (.string (⟨#[]⟩ : ByteArray))]) (cs' := #[(.int .i64 p.1.f0), (.int .i64 p.1.f1), (.int .i64 0), (.int .i64 0), (.string (⟨#[]⟩ : ByteArray))]) (q0o (cs := #[(.int .i64 0), (.int .i64 0), (.int .i64 0), (.int .i64 0), (.string (⟨#[]⟩ : ByteArray))]) (cs' := #[(.int .i64 p.1.f0), (.int .i64 0), (.int .i64 0), (.int .i64 0), (.string (⟨#[]⟩ : ByteArray))]) BP.out 0 _ rfl) 1 _ rfl) 2 _ rfl) 3 _ rfl) 4 _ rfl))
  have c6 := am (show w5.heap.size ≤ a5 from Nat.le_trans a8.out.size b7.out)
  have g1 := am (show Below w.heap.size w (((((w7.setCell ⟨a5, 0, none⟩ (.int .i64 p.1.f0)).setCell ⟨a5, 1, none⟩ (.int .i64 p.1.f1)).setCell ⟨a5, 2, none⟩ (.int .i64 p.1.f2)).setCell ⟨a5, 3, none⟩ (.int .i64 p.1.f3)).setCell ⟨a5, 4, none⟩ (.string p.1.f4)) from (q0n (q0n (q0n (q0n (q0n (q0j b9.out a7.out) (by have b5 := c6.out; have b6 := HS.out; show w.heap.size ≤ a5; omega)) (by have b5 := c6.out; have b6 := HS.out; show w.heap.size ≤ a5; omega)) (by have b5 := c6.out; have b6 := HS.out; show w.heap.size ≤ a5; omega)) (by have b5 := c6.out; have b6 := HS.out; show w.heap.size ≤ a5; omega)) (by have b5 := c6.out; have b6 := HS.out; show w.heap.size ≤ a5; omega)))
  have i6 := am (show Below w5.heap.size w5 (((((w7.setCell ⟨a5, 0, none⟩ (.int .i64 p.1.f0)).setCell ⟨a5, 1, none⟩ (.int .i64 p.1.f1)).setCell ⟨a5, 2, none⟩ (.int .i64 p.1.f2)).setCell ⟨a5, 3, none⟩ (.int .i64 p.1.f3)).setCell ⟨a5, 4, none⟩ (.string p.1.f4)) from (q0n (q0n (q0n (q0n (q0n (q0j a8.out a7.out) c6.out) c6.out) c6.out) c6.out) c6.out))
  have KF := am (show KeepsFrom w5.heap.size W (((((w7.setCell ⟨a5, 0, none⟩ (.int .i64 p.1.f0)).setCell ⟨a5, 1, none⟩ (.int .i64 p.1.f1)).setCell ⟨a5, 2, none⟩ (.int .i64 p.1.f2)).setCell ⟨a5, 3, none⟩ (.int .i64 p.1.f3)).setCell ⟨a5, 4, none⟩ (.string p.1.f4)) from (KeepsFrom.trans (KeepsFrom.trans (KeepsFrom.trans (KeepsFrom.trans (KeepsFrom.trans ((q1b a7.out).from w5.heap.size) ((KeepsOthers.setCell _ _ _).from _)) ((KeepsOthers.setCell _ _ _).from _)) ((KeepsOthers.setCell _ _ _).from _)) ((KeepsOthers.setCell _ _ _).from _)) ((KeepsOthers.setCell _ _ _).from _)))
  clear a9 a4 a7 b7 BP HX k7 i4 k6 x0 x1 x2 x3 x4 a0 a1 a2 a3 y0 y1 y2 y3 y4 s3 s4 s5 s6 s7 b9 a8 Z4 Z6 Z7 Z8 Z9
  have Z4 := X4
  have Z6 := X6
  have Z7 := X7
  have Z8 := X8
  have Z9 := X9
  have b9 := g1
  have a8 := i6
  clear g1 i6 X4 X6 X7 X8 X9
  generalize (((((w7.setCell ⟨a5, 0, none⟩ (.int .i64 p.1.f0)).setCell ⟨a5, 1, none⟩ (.int .i64 p.1.f1)).setCell ⟨a5, 2, none⟩ (.int .i64 p.1.f2)).setCell ⟨a5, 3, none⟩ (.int .i64 p.1.f3)).setCell ⟨a5, 4, none⟩ (.string p.1.f4)) = w8 at *
  by_cases q2 : p.2 = 0
  case neg =>
   have k3 := am q2
   have E2 := beq_eq_false_iff_ne.2 q2
   clear q2
   obtain ⟨d0, d1, d2, d3, d4⟩ := ce5 Z8.out
   obtain ⟨k5, k8, k9, l0, l1⟩ := z5 Z8.out
   have q0 := ce1 Z9.out
   have l4 := z1 Z9.out
   gi_wp2
   exact ⟨(by repeat (first | exact KF.out | refine KeepsFrom.trans ?_ ((KeepsOthers.setCell _ _ _).from _))), g5, x, p, rfl, i1.out, m6.out, (by rw [m1.out, m5.out]; exact HP.out), rfl, (q0n (q0n (q0n (q0n (q0n (q0n b9.out (by show w.heap.size ≤ w.heap.size + 1 + 1 + 1; omega)) (by show w.heap.size ≤ w.heap.size + 1 + 1 + 1; omega)) (by show w.heap.size ≤ w.heap.size + 1 + 1 + 1; omega)) (by show w.heap.size ≤ w.heap.size + 1 + 1 + 1; omega)) (by show w.heap.size ≤ w.heap.size + 1 + 1 + 1; omega)) (by show w.heap.size ≤ w.heap.size + 1 + 1 + 1 + 1; omega)), .inl ⟨k3.out, q0l (q0o (cs := #[(.string (⟨#[]⟩ : ByteArray)), (.string (⟨#[]⟩ : ByteArray)), (.slice none 0 0), (.int .i64 0), (.slice none 0 0)]) (cs' := #[(.string (⟨#[]⟩ : ByteArray)), (.string (⟨#[]⟩ : ByteArray)), (.slice none 0 0), (.int .i64 0), (.slice none 0 0)]) (q0o (cs := #[(.string (⟨#[]⟩ : ByteArray)), (.string (⟨#[]⟩ : ByteArray)), (.slice none 0 0), (.int .i64 0), (.slice none 0 0)]) (cs' := #[(.string (⟨#[]⟩ : ByteArray)), (.string (⟨#[]⟩ : ByteArray)), (.slice none 0 0), (.int .i64 0), (.slice none 0 0)]) (q0o (cs := #[(.string (⟨#[]⟩ : ByteArray)), (.string (⟨#[]⟩ : ByteArray)), (.slice none 0 0), (.int .i64 0), (.slice none 0 0)]) (cs' := #[(.string (⟨#[]⟩ : ByteArray)), (.string (⟨#[]⟩ : ByteArray)), (.slice none 0 0), (.int .i64 0), (.slice none 0 0)]) (q0o (cs := #[(.string (⟨#[]⟩ : ByteArray)), (.string (⟨#[]⟩ : ByteArray)), (.slice none 0 0), (.int .i64 0), (.slice none 0 0)]) (cs' := #[(.string (⟨#[]⟩ : ByteArray)), (.string (⟨#[]⟩ : ByteArray)), (.slice none 0 0), (.int .i64 0), (.slice none 0 0)]) (q0o (cs := #[(.string (⟨#[]⟩ : ByteArray)), (.string (⟨#[]⟩ : ByteArray)), (.slice none 0 0), (.int .i64 0), (.slice none 0 0)]) (cs' := #[(.string (⟨#[]⟩ : ByteArray)), (.string (⟨#[]⟩ : ByteArray)), (.slice none 0 0), (.int .i64 0), (.slice none 0 0)]) Z8.out 0 _ rfl) 1 _ rfl) 2 _ rfl) 3 _ rfl) 4 _ rfl) (by show w.heap.size + 1 + 1 + 1 ≠ w.heap.size + 1 + 1 + 1 + 1; omega) _, (q0o (cs := #[.int .i64 0]) (cs' := #[.int .i64 p.2]) (q0l (q0l (q0l (q0l (q0l Z9.out (by show w.heap.size + 1 + 1 + 1 + 1 ≠ w.heap.size + 1 + 1 + 1; omega) _) (by show w.heap.size + 1 + 1 + 1 + 1 ≠ w.heap.size + 1 + 1 + 1; omega) _) (by show w.heap.size + 1 + 1 + 1 + 1 ≠ w.heap.size + 1 + 1 + 1; omega) _) (by show w.heap.size + 1 + 1 + 1 + 1 ≠ w.heap.size + 1 + 1 + 1; omega) _) (by show w.heap.size + 1 + 1 + 1 + 1 ≠ w.heap.size + 1 + 1 + 1; omega) _) 0 _ rfl)⟩⟩
  obtain ⟨q, hq⟩ := HQ.out q2
  have k3 := am q2
  have HM := am hq
  have E2 := beq_iff_eq.2 q2
  clear q2 hq
  obtain ⟨b0, b1, b2, b3, b4⟩ := ce5 Z4.out
  have i2 := q0k Z4.out 4
  gi_wp2_with (first | ((first | (refine ⟨trivial, ?_⟩; gi_at_call 37) | gi_at_call 37); refine (CallsIn.inRound l (callsIn_wide.2 (q4b A3 c3 ys _ (q1c.reads (q1c.below H3.out a8.out) HC.out b9.out) (by have h_ := k1.out; (try dsimp only at h_); omega)))).mono ?_; rintro e w9 ⟨v9, rfl, ho, hb⟩; obtain ⟨A9, c9, e9⟩ := Kd.R_slice ho; subst e9; have H9 := am (Kd.R_lower ho (q0p b9.out)); have X4 := am (q0b Z4.out hb); have X8 := am (q0b Z8.out hb); have X9 := am (q0b Z9.out hb); have m8 := am (q0b XP.out hb); have g1 := am (q0j b9.out hb); have i6 := am (q0j a8.out hb); have i7 := am (KeepsFrom.trans KF.out ((q1b hb).from _)); clear Z4 Z8 Z9 Z6 Z7 XP b9 a8 KF hb ho b0 b1 b2 b3 b4 i2; have Z4 := X4; have Z8 := X8; have Z9 := X9; have XP := m8; have b9 := g1; have a8 := i6; have KF := i7; clear X4 X8 X9 m8 g1 i6 i7; obtain ⟨gr, s9, e6, j0, t5, k4, i3⟩ := Kd.R_form H9.out (by have := HI.out; omega); injection e6 with e6 e7 e8; subst e6; subst e8; clear e7; obtain ⟨cc, q1, l2, i0, o1⟩ := Kd.R_elem H9.out z51 ((x.val : Nat) : Int) (by omega) (by have := HI.out; omega); rw [Int.toNat_natCast] at i0 o1; generalize ys.getD (((x.val : Nat) : Int)).toNat z51 = s2 at l2; obtain rfl := X.k51_openM l2; clear l2 q1; have t0 : w9.cell? ⟨gr, x.val * 5, none⟩ = some (.int .i64 s2.f0) := i0 0 _ rfl; have t1 : w9.cell? ⟨gr, x.val * 5 + 1, none⟩ = some (.int .i64 s2.f1) := i0 1 _ rfl; have t2 : w9.cell? ⟨gr, x.val * 5 + 2, none⟩ = some (.int .i64 s2.f2) := i0 2 _ rfl; have t3 : w9.cell? ⟨gr, x.val * 5 + 3, none⟩ = some (.int .i64 s2.f3) := i0 3 _ rfl; have t4 : w9.cell? ⟨gr, x.val * 5 + 4, none⟩ = some (.string s2.f4) := i0 4 _ rfl; have r2 : w9.frozen? ⟨gr, x.val * 5, none⟩ = false := q0k i3 _; have r3 : w9.frozen? ⟨gr, x.val * 5 + 1, none⟩ = false := q0k i3 _; have r4 : w9.frozen? ⟨gr, x.val * 5 + 2, none⟩ = false := q0k i3 _; have r5 : w9.frozen? ⟨gr, x.val * 5 + 3, none⟩ = false := q0k i3 _; have r6 : w9.frozen? ⟨gr, x.val * 5 + 4, none⟩ = false := q0k i3 _; have m7 := am (Kd.own_blk (Kd.R_ne H9.out Z4.out (by decide))); have p7 := am (Kd.own_blk (Kd.R_ne H9.out Z8.out (by decide))); have p8 := am (Kd.own_blk (Kd.R_ne H9.out Z9.out (by decide))); have u0 := m7.out; have u5 := m7.out.symm; have l3 : w.heap.size ≠ a5 := (by have b5 := c6.out; have b6 := HS.out; omega); have r1 := l3.symm; have i5 := am j0; clear i0 o1 j0 i3; obtain ⟨b0, b1, b2, b3, b4⟩ := ce5 Z4.out; have i2 := q0k Z4.out 4; have y0 : w9.cell? ⟨a5, 0, none⟩ = some (.int .i64 p.1.f0) := bc XP.out; have y1 : w9.cell? ⟨a5, 1, none⟩ = some (.int .i64 p.1.f1) := bc XP.out; have y2 : w9.cell? ⟨a5, 2, none⟩ = some (.int .i64 p.1.f2) := bc XP.out; have y3 : w9.cell? ⟨a5, 3, none⟩ = some (.int .i64 p.1.f3) := bc XP.out; have y4 : w9.cell? ⟨a5, 4, none⟩ = some (.string p.1.f4) := bc XP.out) | ((first | (refine ⟨trivial, ?_⟩; gi_at_call 30) | gi_at_call 30); refine (CallsIn.inRound l (callsIn_wide.2 (mend_n ky nm (some ad) c1 ts is' (some ⟨gr, 0, none⟩) c9 (ys.set x.val p.1) ys.length List.length_set q.1 q.2 (St5 (w9.setCell ⟨w.heap.size, 4, none⟩ (.slice (some ⟨gr, 0, none⟩) ys.length c9)) gr (x.val * 5) p.1) (Kd.C_below HT.out (q3t _ _ _ _ _ (q0n b9.out (by show w.heap.size ≤ w.heap.size; omega)) i5.out)) (Kd.R_reads' (put51 _ w.heap.size gr ys.length c9 (fun _ => True) ys (Kd.R_set H9.out Z4.out (by decide) 4 (.slice (some ⟨gr, 0, none⟩) ys.length c9)) x.val HI.out p.1)).2.2 HM.out))).mono ?_; rintro e u7 ⟨u6, rfl, ho, hb⟩; obtain ⟨l6, n3, p9⟩ := Kd.R_slice ho; subst p9; have QB := am (show Below w.heap.size w (St5 (w9.setCell ⟨w.heap.size, 4, none⟩ (.slice (some ⟨gr, 0, none⟩) ys.length c9)) gr (x.val * 5) p.1) from (q3t _ _ _ _ _ (q0n b9.out (by show w.heap.size ≤ w.heap.size; omega)) i5.out)); have p4 := am (Kd.R_lower ho (q0p QB.out)); have X8 := am (q0b (show (St5 (w9.setCell ⟨w.heap.size, 4, none⟩ (.slice (some ⟨gr, 0, none⟩) ys.length c9)) gr (x.val * 5) p.1).heap[w.heap.size + 1 + 1 + 1]? = some (.cells (#[(.string (⟨#[]⟩ : ByteArray)), (.string (⟨#[]⟩ : ByteArray)), (.slice none 0 0), (.int .i64 0), (.slice none 0 0)] : Array Value) 27 (0, 0)) from q3i _ _ _ _ _ _ _ (q0l Z8.out (by show w.heap.size + 1 + 1 + 1 ≠ w.heap.size; omega) _) p7.out.symm) hb); have X9 := am (q0b (show (St5 (w9.setCell ⟨w.heap.size, 4, none⟩ (.slice (some ⟨gr, 0, none⟩) ys.length c9)) gr (x.val * 5) p.1).heap[w.heap.size + 1 + 1 + 1 + 1]? = some (.cells (#[(.int .i64 0)] : Array Value) 29 (0, 0)) from q3i _ _ _ _ _ _ _ (q0l Z9.out (by show w.heap.size + 1 + 1 + 1 + 1 ≠ w.heap.size; omega) _) p8.out.symm) hb); have i7 := am (KeepsFrom.trans (show KeepsFrom w5.heap.size W (St5 (w9.setCell ⟨w.heap.size, 4, none⟩ (.slice (some ⟨gr, 0, none⟩) ys.length c9)) gr (x.val * 5) p.1) from KeepsFrom.trans (KeepsFrom.trans (KeepsFrom.trans (KeepsFrom.trans (KeepsFrom.trans (KeepsFrom.trans KF.out ((KeepsOthers.setCell _ _ _).from _)) ((KeepsOthers.setCell _ _ _).from _)) ((KeepsOthers.setCell _ _ _).from _)) ((KeepsOthers.setCell _ _ _).from _)) ((KeepsOthers.setCell _ _ _).from _)) ((KeepsOthers.setCell _ _ _).from _)) ((q1b hb).from _)); have g1 := am (q0j QB.out hb); clear Z4 Z8 Z9 XP b9 a8 KF QB hb ho H9 t0 t1 t2 t3 t4 r2 r3 r4 r5 r6 y0 y1 y2 y3 y4 i2 b0 b1 b2 b3 b4; have Z8 := X8; have Z9 := X9; have b9 := g1; have KF := i7; clear X8 X9 g1 i7; obtain ⟨d0, d1, d2, d3, d4⟩ := ce5 Z8.out; obtain ⟨k5, k8, k9, l0, l1⟩ := z5 Z8.out; have q0 := ce1 Z9.out; have l4 := z1 Z9.out))
  exact ⟨(by repeat (first | exact KF.out | refine KeepsFrom.trans ?_ ((KeepsOthers.setCell _ _ _).from _))), g5, x, p, rfl, i1.out, m6.out, (by rw [m1.out, m5.out]; exact HP.out), rfl, (q0n (q0n (q0n (q0n (q0n (q0n b9.out (by show w.heap.size ≤ w.heap.size + 1 + 1 + 1; omega)) (by show w.heap.size ≤ w.heap.size + 1 + 1 + 1; omega)) (by show w.heap.size ≤ w.heap.size + 1 + 1 + 1; omega)) (by show w.heap.size ≤ w.heap.size + 1 + 1 + 1; omega)) (by show w.heap.size ≤ w.heap.size + 1 + 1 + 1; omega)) (by show w.heap.size ≤ w.heap.size + 1 + 1 + 1 + 1; omega)), .inr ⟨k3.out, q, l6, n3, HM.out, q0l (q0o (cs := #[(.string ky), (.string nm), (.slice (some ad) ts.length c1), (.int .i64 q.1), (.slice none 0 0)]) (cs' := #[(.string ky), (.string nm), (.slice (some ad) ts.length c1), (.int .i64 q.1), (.slice l6 q.2.length n3)]) (q0o (cs := #[(.string ky), (.string nm), (.slice (some ad) ts.length c1), (.int .i64 0), (.slice none 0 0)]) (cs' := #[(.string ky), (.string nm), (.slice (some ad) ts.length c1), (.int .i64 q.1), (.slice none 0 0)]) (q0o (cs := #[(.string ky), (.string nm), (.slice none 0 0), (.int .i64 0), (.slice none 0 0)]) (cs' := #[(.string ky), (.string nm), (.slice (some ad) ts.length c1), (.int .i64 0), (.slice none 0 0)]) (q0o (cs := #[(.string ky), (.string (⟨#[]⟩ : ByteArray)), (.slice none 0 0), (.int .i64 0), (.slice none 0 0)]) (cs' := #[(.string ky), (.string nm), (.slice none 0 0), (.int .i64 0), (.slice none 0 0)]) (q0o (cs := #[(.string (⟨#[]⟩ : ByteArray)), (.string (⟨#[]⟩ : ByteArray)), (.slice none 0 0), (.int .i64 0), (.slice none 0 0)]) (cs' := #[(.string ky), (.string (⟨#[]⟩ : ByteArray)), (.slice none 0 0), (.int .i64 0), (.slice none 0 0)]) Z8.out 0 _ rfl) 1 _ rfl) 2 _ rfl) 3 _ rfl) 4 _ rfl) (by show w.heap.size + 1 + 1 + 1 ≠ w.heap.size + 1 + 1 + 1 + 1; omega) _, (q0o (cs := #[.int .i64 0]) (cs' := #[.int .i64 0]) (q0l (q0l (q0l (q0l (q0l Z9.out (by show w.heap.size + 1 + 1 + 1 + 1 ≠ w.heap.size + 1 + 1 + 1; omega) _) (by show w.heap.size + 1 + 1 + 1 + 1 ≠ w.heap.size + 1 + 1 + 1; omega) _) (by show w.heap.size + 1 + 1 + 1 + 1 ≠ w.heap.size + 1 + 1 + 1; omega) _) (by show w.heap.size + 1 + 1 + 1 + 1 ≠ w.heap.size + 1 + 1 + 1; omega) _) (by show w.heap.size + 1 + 1 + 1 + 1 ≠ w.heap.size + 1 + 1 + 1; omega) _) 0 _ rfl), (Kd.R_set (Kd.R_set (Kd.R_set (Kd.R_set (Kd.R_set (Kd.R_set p4.out Z8.out (by decide) 0 _) (q0o (cs := #[(.string (⟨#[]⟩ : ByteArray)), (.string (⟨#[]⟩ : ByteArray)), (.slice none 0 0), (.int .i64 0), (.slice none 0 0)]) (cs' := #[(.string ky), (.string (⟨#[]⟩ : ByteArray)), (.slice none 0 0), (.int .i64 0), (.slice none 0 0)]) Z8.out 0 _ rfl) (by decide) 1 _) (q0o (cs := #[(.string ky), (.string (⟨#[]⟩ : ByteArray)), (.slice none 0 0), (.int .i64 0), (.slice none 0 0)]) (cs' := #[(.string ky), (.string nm), (.slice none 0 0), (.int .i64 0), (.slice none 0 0)]) (q0o (cs := #[(.string (⟨#[]⟩ : ByteArray)), (.string (⟨#[]⟩ : ByteArray)), (.slice none 0 0), (.int .i64 0), (.slice none 0 0)]) (cs' := #[(.string ky), (.string (⟨#[]⟩ : ByteArray)), (.slice none 0 0), (.int .i64 0), (.slice none 0 0)]) Z8.out 0 _ rfl) 1 _ rfl) (by decide) 2 _) (q0o (cs := #[(.string ky), (.string nm), (.slice none 0 0), (.int .i64 0), (.slice none 0 0)]) (cs' := #[(.string ky), (.string nm), (.slice (some ad) ts.length c1), (.int .i64 0), (.slice none 0 0)]) (q0o (cs := #[(.string ky), (.string (⟨#[]⟩ : ByteArray)), (.slice none 0 0), (.int .i64 0), (.slice none 0 0)]) (cs' := #[(.string ky), (.string nm), (.slice none 0 0), (.int .i64 0), (.slice none 0 0)]) (q0o (cs := #[(.string (⟨#[]⟩ : ByteArray)), (.string (⟨#[]⟩ : ByteArray)), (.slice none 0 0), (.int .i64 0), (.slice none 0 0)]) (cs' := #[(.string ky), (.string (⟨#[]⟩ : ByteArray)), (.slice none 0 0), (.int .i64 0), (.slice none 0 0)]) Z8.out 0 _ rfl) 1 _ rfl) 2 _ rfl) (by decide) 3 _) (q0o (cs := #[(.string ky), (.string nm), (.slice (some ad) ts.length c1), (.int .i64 0), (.slice none 0 0)]) (cs' := #[(.string ky), (.string nm), (.slice (some ad) ts.length c1), (.int .i64 q.1), (.slice none 0 0)]) (q0o (cs := #[(.string ky), (.string nm), (.slice none 0 0), (.int .i64 0), (.slice none 0 0)]) (cs' := #[(.string ky), (.string nm), (.slice (some ad) ts.length c1), (.int .i64 0), (.slice none 0 0)]) (q0o (cs := #[(.string ky), (.string (⟨#[]⟩ : ByteArray)), (.slice none 0 0), (.int .i64 0), (.slice none 0 0)]) (cs' := #[(.string ky), (.string nm), (.slice none 0 0), (.int .i64 0), (.slice none 0 0)]) (q0o (cs := #[(.string (⟨#[]⟩ : ByteArray)), (.string (⟨#[]⟩ : ByteArray)), (.slice none 0 0), (.int .i64 0), (.slice none 0 0)]) (cs' := #[(.string ky), (.string (⟨#[]⟩ : ByteArray)), (.slice none 0 0), (.int .i64 0), (.slice none 0 0)]) Z8.out 0 _ rfl) 1 _ rfl) 2 _ rfl) 3 _ rfl) (by decide) 4 _) (q0l (q0l (q0l (q0l (q0l Z9.out (by show w.heap.size + 1 + 1 + 1 + 1 ≠ w.heap.size + 1 + 1 + 1; omega) _) (by show w.heap.size + 1 + 1 + 1 + 1 ≠ w.heap.size + 1 + 1 + 1; omega) _) (by show w.heap.size + 1 + 1 + 1 + 1 ≠ w.heap.size + 1 + 1 + 1; omega) _) (by show w.heap.size + 1 + 1 + 1 + 1 ≠ w.heap.size + 1 + 1 + 1; omega) _) (by show w.heap.size + 1 + 1 + 1 + 1 ≠ w.heap.size + 1 + 1 + 1; omega) _) (by decide) 0 _)⟩⟩
 case done =>
  rintro D ls W hD rfl ⟨⟨h4, h6, h7, h8, h9⟩, hB, h0, hN⟩ hK
  have Z8 := am h8
  have Z9 := am h9
  have b9 := am hB
  have l8 := am hK
  have hl := heldL_skip ts is' ys a6 i8 (List.finRange ys.length) [] (by rw [uptoF_all] at hN; exact hN)
  rw [List.append_nil, l9.out] at hl
  obtain rfl : r = (191, 0, []) := by simpa [heldL] using hl
  clear h4 h6 h7 h8 h9 hB h0 hN hK hl
  obtain ⟨d0, d1, d2, d3, d4⟩ := ce5 Z8.out
  obtain ⟨k5, k8, k9, l0, l1⟩ := z5 Z8.out
  have q0 := ce1 Z9.out
  have l4 := z1 Z9.out
  gi_wp2
  have E8 := am (show ((((((W.setCell ⟨w.heap.size + 1 + 1 + 1, 0, none⟩ (.string (⟨#[]⟩ : ByteArray))).setCell ⟨w.heap.size + 1 + 1 + 1, 1, none⟩ (.string (⟨#[]⟩ : ByteArray))).setCell ⟨w.heap.size + 1 + 1 + 1, 2, none⟩ (.slice none 0 0)).setCell ⟨w.heap.size + 1 + 1 + 1, 3, none⟩ (.int .i64 0)).setCell ⟨w.heap.size + 1 + 1 + 1, 4, none⟩ (.slice none 0 0)).setCell ⟨w.heap.size + 1 + 1 + 1 + 1, 0, none⟩ (.int .i64 191)).heap[w.heap.size + 1 + 1 + 1]? = some (.cells (#[(.string (⟨#[]⟩ : ByteArray)), (.string (⟨#[]⟩ : ByteArray)), (.slice none 0 0), (.int .i64 0), (.slice none 0 0)] : Array Value) 27 (0, 0)) from q0l (q0o (cs := #[(.string (⟨#[]⟩ : ByteArray)), (.string (⟨#[]⟩ : ByteArray)), (.slice none 0 0), (.int .i64 0), (.slice none 0 0)]) (cs' := #[(.string (⟨#[]⟩ : ByteArray)), (.string (⟨#[]⟩ : ByteArray)), (.slice none 0 0), (.int .i64 0), (.slice none 0 0)]) (q0o (cs := #[(.string (⟨#[]⟩ : ByteArray)), (.string (⟨#[]⟩ : ByteArray)), (.slice none 0 0), (.int .i64 0), (.slice none 0 0)]) (cs' := #[(.string (⟨#[]⟩ : ByteArray)), (.string (⟨#[]⟩ : ByteArray)), (.slice none 0 0), (.int .i64 0), (.slice none 0 0)]) (q0o (cs := #[(.string (⟨#[]⟩ : ByteArray)), (.string (⟨#[]⟩ : ByteArray)), (.slice none 0 0), (.int .i64 0), (.slice none 0 0)]) (cs' := #[(.string (⟨#[]⟩ : ByteArray)), (.string (⟨#[]⟩ : ByteArray)), (.slice none 0 0), (.int .i64 0), (.slice none 0 0)]) (q0o (cs := #[(.string (⟨#[]⟩ : ByteArray)), (.string (⟨#[]⟩ : ByteArray)), (.slice none 0 0), (.int .i64 0), (.slice none 0 0)]) (cs' := #[(.string (⟨#[]⟩ : ByteArray)), (.string (⟨#[]⟩ : ByteArray)), (.slice none 0 0), (.int .i64 0), (.slice none 0 0)]) (q0o (cs := #[(.string (⟨#[]⟩ : ByteArray)), (.string (⟨#[]⟩ : ByteArray)), (.slice none 0 0), (.int .i64 0), (.slice none 0 0)]) (cs' := #[(.string (⟨#[]⟩ : ByteArray)), (.string (⟨#[]⟩ : ByteArray)), (.slice none 0 0), (.int .i64 0), (.slice none 0 0)]) Z8.out 0 _ rfl) 1 _ rfl) 2 _ rfl) 3 _ rfl) 4 _ rfl) (by show w.heap.size + 1 + 1 + 1 ≠ w.heap.size + 1 + 1 + 1 + 1; omega) _)
  have E9 := am (show ((((((W.setCell ⟨w.heap.size + 1 + 1 + 1, 0, none⟩ (.string (⟨#[]⟩ : ByteArray))).setCell ⟨w.heap.size + 1 + 1 + 1, 1, none⟩ (.string (⟨#[]⟩ : ByteArray))).setCell ⟨w.heap.size + 1 + 1 + 1, 2, none⟩ (.slice none 0 0)).setCell ⟨w.heap.size + 1 + 1 + 1, 3, none⟩ (.int .i64 0)).setCell ⟨w.heap.size + 1 + 1 + 1, 4, none⟩ (.slice none 0 0)).setCell ⟨w.heap.size + 1 + 1 + 1 + 1, 0, none⟩ (.int .i64 191)).heap[w.heap.size + 1 + 1 + 1 + 1]? = some (.cells (#[(.int .i64 191)] : Array Value) 29 (0, 0)) from (q0o (cs := #[.int .i64 0]) (cs' := #[.int .i64 191]) (q0l (q0l (q0l (q0l (q0l Z9.out (by show w.heap.size + 1 + 1 + 1 + 1 ≠ w.heap.size + 1 + 1 + 1; omega) _) (by show w.heap.size + 1 + 1 + 1 + 1 ≠ w.heap.size + 1 + 1 + 1; omega) _) (by show w.heap.size + 1 + 1 + 1 + 1 ≠ w.heap.size + 1 + 1 + 1; omega) _) (by show w.heap.size + 1 + 1 + 1 + 1 ≠ w.heap.size + 1 + 1 + 1; omega) _) (by show w.heap.size + 1 + 1 + 1 + 1 ≠ w.heap.size + 1 + 1 + 1; omega) _) 0 _ rfl))
  have EB := am (show Below w.heap.size w ((((((W.setCell ⟨w.heap.size + 1 + 1 + 1, 0, none⟩ (.string (⟨#[]⟩ : ByteArray))).setCell ⟨w.heap.size + 1 + 1 + 1, 1, none⟩ (.string (⟨#[]⟩ : ByteArray))).setCell ⟨w.heap.size + 1 + 1 + 1, 2, none⟩ (.slice none 0 0)).setCell ⟨w.heap.size + 1 + 1 + 1, 3, none⟩ (.int .i64 0)).setCell ⟨w.heap.size + 1 + 1 + 1, 4, none⟩ (.slice none 0 0)).setCell ⟨w.heap.size + 1 + 1 + 1 + 1, 0, none⟩ (.int .i64 191)) from (q0n (q0n (q0n (q0n (q0n (q0n b9.out (by show w.heap.size ≤ w.heap.size + 1 + 1 + 1; omega)) (by show w.heap.size ≤ w.heap.size + 1 + 1 + 1; omega)) (by show w.heap.size ≤ w.heap.size + 1 + 1 + 1; omega)) (by show w.heap.size ≤ w.heap.size + 1 + 1 + 1; omega)) (by show w.heap.size ≤ w.heap.size + 1 + 1 + 1; omega)) (by show w.heap.size ≤ w.heap.size + 1 + 1 + 1 + 1; omega)))
  have t7 : ∀ g_, g_ < w5.heap.size → D ≠ g_ := fun g_ h_ e_ => by omega
  have EK := am (show ((((((W.setCell ⟨w.heap.size + 1 + 1 + 1, 0, none⟩ (.string (⟨#[]⟩ : ByteArray))).setCell ⟨w.heap.size + 1 + 1 + 1, 1, none⟩ (.string (⟨#[]⟩ : ByteArray))).setCell ⟨w.heap.size + 1 + 1 + 1, 2, none⟩ (.slice none 0 0)).setCell ⟨w.heap.size + 1 + 1 + 1, 3, none⟩ (.int .i64 0)).setCell ⟨w.heap.size + 1 + 1 + 1, 4, none⟩ (.slice none 0 0)).setCell ⟨w.heap.size + 1 + 1 + 1 + 1, 0, none⟩ (.int .i64 191)).heap[D]? = some (.deferred (some [])) from ((Below.heap_setCell _ _ _ D (by show D ≠ w.heap.size + 1 + 1 + 1 + 1; have h_ := HS.out; omega)).trans ((Below.heap_setCell _ _ _ D (by show D ≠ w.heap.size + 1 + 1 + 1; have h_ := HS.out; omega)).trans ((Below.heap_setCell _ _ _ D (by show D ≠ w.heap.size + 1 + 1 + 1; have h_ := HS.out; omega)).trans ((Below.heap_setCell _ _ _ D (by show D ≠ w.heap.size + 1 + 1 + 1; have h_ := HS.out; omega)).trans ((Below.heap_setCell _ _ _ D (by show D ≠ w.heap.size + 1 + 1 + 1; have h_ := HS.out; omega)).trans ((Below.heap_setCell _ _ _ D (by show D ≠ w.heap.size + 1 + 1 + 1; have h_ := HS.out; omega)).trans l8.out)))))))
  clear l8
  generalize ((((((W.setCell ⟨w.heap.size + 1 + 1 + 1, 0, none⟩ (.string (⟨#[]⟩ : ByteArray))).setCell ⟨w.heap.size + 1 + 1 + 1, 1, none⟩ (.string (⟨#[]⟩ : ByteArray))).setCell ⟨w.heap.size + 1 + 1 + 1, 2, none⟩ (.slice none 0 0)).setCell ⟨w.heap.size + 1 + 1 + 1, 3, none⟩ (.int .i64 0)).setCell ⟨w.heap.size + 1 + 1 + 1, 4, none⟩ (.slice none 0 0)).setCell ⟨w.heap.size + 1 + 1 + 1 + 1, 0, none⟩ (.int .i64 191)) = wE at *
  refine ⟨by simp, .inl ⟨_, _, rfl, run_takeDeferred EK.out, ?_⟩⟩
  have P8 : (wE.putObj D (.deferred none)).heap[w.heap.size + 1 + 1 + 1]? = some (.cells (#[(.string (⟨#[]⟩ : ByteArray)), (.string (⟨#[]⟩ : ByteArray)), (.slice none 0 0), (.int .i64 0), (.slice none 0 0)] : Array Value) 27 (0, 0)) := (World.putObj_heap_other (by have h_ := HS.out; omega)).trans E8.out
  have P9 : (wE.putObj D (.deferred none)).heap[w.heap.size + 1 + 1 + 1 + 1]? = some (.cells (#[(.int .i64 191)] : Array Value) 29 (0, 0)) := (World.putObj_heap_other (by have h_ := HS.out; omega)).trans E9.out
  exact ⟨_, results_cs rfl _ _ (w.heap.size + 1 + 1 + 1) (w.heap.size + 1 + 1 + 1 + 1) 27 (#[(.string (⟨#[]⟩ : ByteArray)), (.string (⟨#[]⟩ : ByteArray)), (.slice none 0 0), (.int .i64 0), (.slice none 0 0)] : Array Value) (0, 0) _ (.int .i64 191) rfl P8 Try.underlying27 rfl (by kernel_rfl) rfl (load29 _ _ _ (bc P9)), .inr ⟨by decide, rfl⟩, EB.out.trans (belowK_b (w := w) (Nat.le_refl _) wE D _ _ (by have := HS.out; omega) EK.out rfl rfl)⟩
 case stop =>
  rintro D c g5 W hD ⟨kk, t6, j1⟩ ⟨c7, x, p, e1, e2, e3, e4, rfl, e6, e7⟩ hK
  have hl := l9.out
  rw [← List.take_append_drop kk (List.finRange ys.length)] at hl
  have o3 : (List.finRange ys.length).take kk = c7 ++ [x] := j1.symm.trans e1
  rw [o3, List.append_assoc, heldL_skip ts is' ys a6 i8 c7 _ e2, List.singleton_append, heldL_here _ _ _ _ _ _ _ e3, e4, Option.bind_some] at hl
  have EB := am e6
  have EK := am hK
  clear hK j1 o3 e1 e2 e3 e4 e6
  rcases e7 with ⟨h1, h2, h3⟩ | ⟨h1, q, Aq, cq, h2, h3, h4, h5⟩
  ·
   rw [if_pos h1] at hl
   obtain rfl := Option.some.inj hl
   have E8 := am h2
   have E9 := am h3
   have H1 := am h1
   clear h1 h2 h3 hl
   generalize W = wE at *
   gi_wp2
   refine ⟨by simp, .inl ⟨_, _, rfl, run_takeDeferred EK.out, ?_⟩⟩
   have P8 : (wE.putObj D (.deferred none)).heap[w.heap.size + 1 + 1 + 1]? = some (.cells (#[(.string (⟨#[]⟩ : ByteArray)), (.string (⟨#[]⟩ : ByteArray)), (.slice none 0 0), (.int .i64 0), (.slice none 0 0)] : Array Value) 27 (0, 0)) := (World.putObj_heap_other (by have h_ := HS.out; omega)).trans E8.out
   have P9 : (wE.putObj D (.deferred none)).heap[w.heap.size + 1 + 1 + 1 + 1]? = some (.cells (#[(.int .i64 p.2)] : Array Value) 29 (0, 0)) := (World.putObj_heap_other (by have h_ := HS.out; omega)).trans E9.out
   exact ⟨_, results_cs rfl _ _ (w.heap.size + 1 + 1 + 1) (w.heap.size + 1 + 1 + 1 + 1) 27 (#[(.string (⟨#[]⟩ : ByteArray)), (.string (⟨#[]⟩ : ByteArray)), (.slice none 0 0), (.int .i64 0), (.slice none 0 0)] : Array Value) (0, 0) _ (.int .i64 p.2) rfl P8 Try.underlying27 rfl (by kernel_rfl) rfl (load29 _ _ _ (bc P9)), .inr ⟨H1.out, rfl⟩, EB.out.trans (belowK_b (w := w) (Nat.le_refl _) wE D _ _ (by have := HS.out; omega) EK.out rfl rfl)⟩
  rw [if_neg (by simpa using h1), h2, Option.bind_some] at hl
  obtain rfl := Option.some.inj hl
  have E8 := am h3
  have E9 := am h4
  have E5 := am h5
  clear h1 h2 h3 h4 h5 hl
  generalize W = wE at *
  gi_wp2
  refine ⟨by simp, .inl ⟨_, _, rfl, run_takeDeferred EK.out, ?_⟩⟩
  have P8 : (wE.putObj D (.deferred none)).heap[w.heap.size + 1 + 1 + 1]? = some (.cells (#[(.string ky), (.string nm), (.slice A1 ts.length c1), (.int .i64 q.1), (.slice Aq q.2.length cq)] : Array Value) 27 (0, 0)) := (World.putObj_heap_other (by have h_ := HS.out; omega)).trans E8.out
  have P9 : (wE.putObj D (.deferred none)).heap[w.heap.size + 1 + 1 + 1 + 1]? = some (.cells (#[(.int .i64 0)] : Array Value) 29 (0, 0)) := (World.putObj_heap_other (by have h_ := HS.out; omega)).trans E9.out
  exact ⟨_, results_cs rfl _ _ (w.heap.size + 1 + 1 + 1) (w.heap.size + 1 + 1 + 1 + 1) 27 (#[(.string ky), (.string nm), (.slice A1 ts.length c1), (.int .i64 q.1), (.slice Aq q.2.length cq)] : Array Value) (0, 0) _ (.int .i64 0) rfl P8 Try.underlying27 rfl (by kernel_rfl) rfl (load29 _ _ _ (bc P9)), .inl ⟨rfl, _, rfl, q1c.own (own_R E5.out (grownBy_putObj' wE D _) (fun r_ e_ => by cases e_; exact ⟨_, EK.out, rfl⟩))⟩, EB.out.trans (belowK_b (w := w) (Nat.le_refl _) wE D _ _ (by have := HS.out; omega) EK.out rfl rfl)⟩
end Go.Proofs.Ytabmkighhmchmaa
namespace Go.Proofs.Ytabmkighhmchmaa
open Go.RowKit Go.Shelf Go.YW.PrintWords Go.YW.PrintLast Go.YW.PrintMore Go.YW.Sq
open X (S49 S51 k49 k51 q0e q0c q1q q1u z51)
set_option linter.unusedVariables false
set_option linter.unusedSimpArgs false
set_option maxHeartbeats 2000000 in
set_option maxRecDepth 100000 in
theorem beatc_calls (k : Nat) (now : Int) (g : Nat) (t : S49) (s : S51) (p : S51 × Int) (A0 : Option Addr) (c0 : Nat) (h : beatA k now t s = some p) (hl : t.f0.length ≤ c0) (w : World) (hA : Kd.C (Kd.int .i64) w A0 t.f0.length t.f0) (hg : w.heap[g]? = some (.cells #[.int .i64 now] 3 (0, 0))) :
  Calls Try.prog 51 (#[.agg #[(.slice A0 t.f0.length c0), (.int .i64 t.f1), (.int .i64 t.f2), (.int .i64 t.f3)], .agg #[(.int .i64 s.f0), (.int .i64 s.f1), (.int .i64 s.f2), (.int .i64 s.f3), (.string s.f4)]] ++ #[.pointer (some ⟨g, 0, none⟩)]) w fun e w' => e = .returned (.tuple #[.agg #[(.int .i64 p.1.f0), (.int .i64 p.1.f1), (.int .i64 p.1.f2), (.int .i64 p.1.f3), (.string p.1.f4)], .int .i64 p.2]) ∧ Below w.heap.size w w' := by
 show Calls Try.prog 51 #[.agg #[(.slice A0 t.f0.length c0), (.int .i64 t.f1), (.int .i64 t.f2), (.int .i64 t.f3)], .agg #[(.int .i64 s.f0), (.int .i64 s.f1), (.int .i64 s.f2), (.int .i64 s.f3), (.string s.f4)], .pointer (some ⟨g, 0, none⟩)] w _
 have d6 := Try.underlying49
 have d7 := Try.underlying51
 have HA := am hA
 have HL := am hl
 have HP := am (beatA_f h)
 have HB := am (Below.refl w.heap.size w)
 have BG := am hg
 clear hA hl h hg
 go_enter Try.func51, Try.ntmps51
 go_wp2_with (first | ((with_reducible refine gD 3 ?_); refine bz 3 (#[(.slice A0 t.f0.length c0), (.int .i64 t.f1), (.int .i64 t.f2), (.int .i64 t.f3)] : Array Value) 49 HB ?_; clear HB; intro g3 hg d8 hb B3 c8 HB; have a7 := nP hg BG; have b8 := am a7.out.symm; replace BG := kP BG hb; clear hb hg) | ((with_reducible refine gD 4 ?_); refine bz 4 (#[(.int .i64 s.f0), (.int .i64 s.f1), (.int .i64 s.f2), (.int .i64 s.f3), (.string s.f4)] : Array Value) 51 HB ?_; clear HB; intro g4 hg d9 hb B4 c9 HB; have a8 := nP hg BG; have b9 := am a8.out.symm; have a4 := nP hg B3; have b5 := am a4.out.symm; replace BG := kP BG hb; replace B3 := kP B3 hb; clear hb hg) | ((with_reducible refine gD 5 ?_); refine bz 5 (#[(.int .i64 0), (.int .i64 0), (.int .i64 0), (.int .i64 0), (.string (⟨#[]⟩ : ByteArray))] : Array Value) 51 HB ?_; clear HB; intro g5 hg c7 hb B5 d5 HB; have a9 := nP hg BG; have c6 := am a9.out.symm; have a5 := nP hg B3; have b6 := am a5.out.symm; have a6 := nP hg B4; have b7 := am a6.out.symm; replace BG := kP BG hb; replace B3 := kP B3 hb; replace B4 := kP B4 hb; clear hb hg; obtain ⟨a0, a1, a2, a3⟩ := ce4 B3.out; obtain ⟨b0, b1, b2, b3, b4⟩ := ce5 B4.out; have k0 : c7.cell? ⟨g, 0, none⟩ = some (.int .i64 now) := bc BG.out) | (go_at_call 52; refine (X.Gb.calls k A0 c0 t.f0 t.f1 t.f2 t.f3 s.f0 s.f1 s.f2 s.f3 s.f4 now _ _ _ _ _ _ _ (Kd.C_below HA.out HB.out) HL.out HP.out).mono ?_; rintro e w3 ⟨rfl, hb⟩; replace B5 := kP B5 hb; replace HB := bS HB hb; clear k0 BG B3 B4 a0 a1 a2 a3 b0 b1 b2 b3 b4 hb; obtain ⟨d0, d1, d2, d3, d4⟩ := ce5 B5.out; obtain ⟨e0, e1, e2, e3, e4⟩ := z5 B5.out))
 refine bodyPost_ret (q1a rfl _ _ g5 51 (#[(.int .i64 p.1.f0), (.int .i64 p.1.f1), (.int .i64 p.1.f2), (.int .i64 p.1.f3), (.string p.1.f4)] : Array Value) (0, 0) _ rfl (pP B5.out) Try.underlying51 rfl (by kernel_rfl)) rfl ?_
 exact ⟨rfl, pB HB.out⟩
set_option maxHeartbeats 2000000 in
set_option maxRecDepth 100000 in
theorem failc_calls (k : Nat) (now : Int) (g : Nat) (t : S49) (s : S51) (p : S51 × Int) (A0 : Option Addr) (c0 : Nat) (h : failA k now t s = some p) (hl : t.f0.length ≤ c0) (w : World) (hA : Kd.C (Kd.int .i64) w A0 t.f0.length t.f0) (hg : w.heap[g]? = some (.cells #[.int .i64 now] 3 (0, 0))) :
  Calls Try.prog 55 (#[.agg #[(.slice A0 t.f0.length c0), (.int .i64 t.f1), (.int .i64 t.f2), (.int .i64 t.f3)], .agg #[(.int .i64 s.f0), (.int .i64 s.f1), (.int .i64 s.f2), (.int .i64 s.f3), (.string s.f4)]] ++ #[.pointer (some ⟨g, 0, none⟩)]) w fun e w' => e = .returned (.tuple #[.agg #[(.int .i64 p.1.f0), (.int .i64 p.1.f1), (.int .i64 p.1.f2), (.int .i64 p.1.f3), (.string p.1.f4)], .int .i64 p.2]) ∧ Below w.heap.size w w' := by
 show Calls Try.prog 55 #[.agg #[(.slice A0 t.f0.length c0), (.int .i64 t.f1), (.int .i64 t.f2), (.int .i64 t.f3)], .agg #[(.int .i64 s.f0), (.int .i64 s.f1), (.int .i64 s.f2), (.int .i64 s.f3), (.string s.f4)], .pointer (some ⟨g, 0, none⟩)] w _
 have d6 := Try.underlying49
 have d7 := Try.underlying51
 have HA := am hA
 have HL := am hl
 have HP := am (failA_f h)
 have HB := am (Below.refl w.heap.size w)
 have BG := am hg
 clear hA hl h hg
 go_enter Try.func55, Try.ntmps55
 go_wp2_with (first | ((with_reducible refine gD 3 ?_); refine bz 3 (#[(.slice A0 t.f0.length c0), (.int .i64 t.f1), (.int .i64 t.f2), (.int .i64 t.f3)] : Array Value) 49 HB ?_; clear HB; intro g3 hg d8 hb B3 c8 HB; have a7 := nP hg BG; have b8 := am a7.out.symm; replace BG := kP BG hb; clear hb hg) | ((with_reducible refine gD 4 ?_); refine bz 4 (#[(.int .i64 s.f0), (.int .i64 s.f1), (.int .i64 s.f2), (.int .i64 s.f3), (.string s.f4)] : Array Value) 51 HB ?_; clear HB; intro g4 hg d9 hb B4 c9 HB; have a8 := nP hg BG; have b9 := am a8.out.symm; have a4 := nP hg B3; have b5 := am a4.out.symm; replace BG := kP BG hb; replace B3 := kP B3 hb; clear hb hg) | ((with_reducible refine gD 5 ?_); refine bz 5 (#[(.int .i64 0), (.int .i64 0), (.int .i64 0), (.int .i64 0), (.string (⟨#[]⟩ : ByteArray))] : Array Value) 51 HB ?_; clear HB; intro g5 hg c7 hb B5 d5 HB; have a9 := nP hg BG; have c6 := am a9.out.symm; have a5 := nP hg B3; have b6 := am a5.out.symm; have a6 := nP hg B4; have b7 := am a6.out.symm; replace BG := kP BG hb; replace B3 := kP B3 hb; replace B4 := kP B4 hb; clear hb hg; obtain ⟨a0, a1, a2, a3⟩ := ce4 B3.out; obtain ⟨b0, b1, b2, b3, b4⟩ := ce5 B4.out; have k0 : c7.cell? ⟨g, 0, none⟩ = some (.int .i64 now) := bc BG.out) | (go_at_call 56; refine (X.F1.calls k A0 c0 t.f0 t.f1 t.f2 t.f3 s.f0 s.f1 s.f2 s.f3 s.f4 now _ _ _ _ _ _ _ (Kd.C_below HA.out HB.out) HL.out HP.out).mono ?_; rintro e w3 ⟨rfl, hb⟩; replace B5 := kP B5 hb; replace HB := bS HB hb; clear k0 BG B3 B4 a0 a1 a2 a3 b0 b1 b2 b3 b4 hb; obtain ⟨d0, d1, d2, d3, d4⟩ := ce5 B5.out; obtain ⟨e0, e1, e2, e3, e4⟩ := z5 B5.out))
 refine bodyPost_ret (q1a rfl _ _ g5 51 (#[(.int .i64 p.1.f0), (.int .i64 p.1.f1), (.int .i64 p.1.f2), (.int .i64 p.1.f3), (.string p.1.f4)] : Array Value) (0, 0) _ rfl (pP B5.out) Try.underlying51 rfl (by kernel_rfl)) rfl ?_
 exact ⟨rfl, pB HB.out⟩
set_option maxHeartbeats 2000000 in
set_option maxRecDepth 100000 in
theorem donec_calls (b8 : ByteArray) (g : Nat) (t : S49) (s : S51) (p : S51 × Int) (A0 : Option Addr) (c0 : Nat) (h : doneA b8 t s = some p) (hl : t.f0.length ≤ c0) (w : World) (hA : Kd.C (Kd.int .i64) w A0 t.f0.length t.f0) (hg : w.heap[g]? = some (.cells #[.string b8] 9 (0, 0))) :
  Calls Try.prog 53 (#[.agg #[(.slice A0 t.f0.length c0), (.int .i64 t.f1), (.int .i64 t.f2), (.int .i64 t.f3)], .agg #[(.int .i64 s.f0), (.int .i64 s.f1), (.int .i64 s.f2), (.int .i64 s.f3), (.string s.f4)]] ++ #[.pointer (some ⟨g, 0, none⟩)]) w fun e w' => e = .returned (.tuple #[.agg #[(.int .i64 p.1.f0), (.int .i64 p.1.f1), (.int .i64 p.1.f2), (.int .i64 p.1.f3), (.string p.1.f4)], .int .i64 p.2]) ∧ Below w.heap.size w w' := by
 show Calls Try.prog 53 #[.agg #[(.slice A0 t.f0.length c0), (.int .i64 t.f1), (.int .i64 t.f2), (.int .i64 t.f3)], .agg #[(.int .i64 s.f0), (.int .i64 s.f1), (.int .i64 s.f2), (.int .i64 s.f3), (.string s.f4)], .pointer (some ⟨g, 0, none⟩)] w _
 have d7 := Try.underlying49
 have d8 := Try.underlying51
 have HA := am hA
 have HL := am hl
 have HP := am (doneA_f h)
 have HB := am (Below.refl w.heap.size w)
 have BG := am hg
 clear hA hl h hg
 go_enter Try.func53, Try.ntmps53
 go_wp2_with (first | ((with_reducible refine gD 3 ?_); refine bz 3 (#[(.slice A0 t.f0.length c0), (.int .i64 t.f1), (.int .i64 t.f2), (.int .i64 t.f3)] : Array Value) 49 HB ?_; clear HB; intro g3 hg d9 hb B3 c9 HB; have a7 := nP hg BG; have b9 := am a7.out.symm; replace BG := kP BG hb; clear hb hg) | ((with_reducible refine gD 4 ?_); refine bz 4 (#[(.int .i64 s.f0), (.int .i64 s.f1), (.int .i64 s.f2), (.int .i64 s.f3), (.string s.f4)] : Array Value) 51 HB ?_; clear HB; intro g4 hg e0 hb B4 d5 HB; have a8 := nP hg BG; have c6 := am a8.out.symm; have a4 := nP hg B3; have b5 := am a4.out.symm; replace BG := kP BG hb; replace B3 := kP B3 hb; clear hb hg) | ((with_reducible refine gD 5 ?_); refine bz 5 (#[(.int .i64 0), (.int .i64 0), (.int .i64 0), (.int .i64 0), (.string (⟨#[]⟩ : ByteArray))] : Array Value) 51 HB ?_; clear HB; intro g5 hg c8 hb B5 d6 HB; have a9 := nP hg BG; have c7 := am a9.out.symm; have a5 := nP hg B3; have b6 := am a5.out.symm; have a6 := nP hg B4; have b7 := am a6.out.symm; replace BG := kP BG hb; replace B3 := kP B3 hb; replace B4 := kP B4 hb; clear hb hg; obtain ⟨a0, a1, a2, a3⟩ := ce4 B3.out; obtain ⟨b0, b1, b2, b3, b4⟩ := ce5 B4.out; have k0 : c8.cell? ⟨g, 0, none⟩ = some (.string b8) := bc BG.out) | (go_at_call 54; refine (X.Gc.calls A0 c0 t.f0 t.f1 t.f2 t.f3 s.f0 s.f1 s.f2 s.f3 s.f4 b8 _ _ _ _ _ _ _ (Kd.C_below HA.out HB.out) HL.out HP.out).mono ?_; rintro e w3 ⟨rfl, hb⟩; replace B5 := kP B5 hb; replace HB := bS HB hb; clear k0 BG B3 B4 a0 a1 a2 a3 b0 b1 b2 b3 b4 hb; obtain ⟨d0, d1, d2, d3, d4⟩ := ce5 B5.out; obtain ⟨e1, e2, e3, e4, e5⟩ := z5 B5.out))
 refine bodyPost_ret (q1a rfl _ _ g5 51 (#[(.int .i64 p.1.f0), (.int .i64 p.1.f1), (.int .i64 p.1.f2), (.int .i64 p.1.f3), (.string p.1.f4)] : Array Value) (0, 0) _ rfl (pP B5.out) Try.underlying51 rfl (by kernel_rfl)) rfl ?_
 exact ⟨rfl, pB HB.out⟩
set_option maxHeartbeats 2000000 in
set_option maxRecDepth 100000 in
theorem beat_calls (k : Nat) (ky nm : ByteArray) (A1 : Option Addr) (c1 : Nat) (ts : List S49) (is : Int) (A2 : Option Addr) (c2 : Nat) (xs : List S51) (now a4 : Int) (r : Int × Int × List S51) (w : World) (hT : Kd.C k49 w A1 ts.length ts) (ht : ts.length ≤ c1) (hC : Kd.C k51 w A2 xs.length xs) (h : heldO k ky nm ts is xs now a4 (beatA k now) = some r) :
  Calls Try.prog 19 #[.agg #[(.string ky), (.string nm), (.slice A1 ts.length c1), (.int .i64 is), (.slice A2 xs.length c2)], .int .i64 now, .int .i64 a4] w fun e w' => runPost ky nm A1 c1 ts A2 c2 xs w r e w' := by
 have d6 := Try.underlying27
 have HC := am hC
 have HT := am hT
 have b9 := am ht
 have HH := am h
 have HB := am (Below.refl w.heap.size w)
 clear hT hC h ht
 by_cases h0 : r.1 = 0
 ·
  have H0 := am h0
  clear h0
  go_enter Try.func19, Try.ntmps19
  go_wp2_with (first | ((with_reducible refine gD 3 ?_); refine bz 3 (#[(.string ky), (.string nm), (.slice A1 ts.length c1), (.int .i64 is), (.slice A2 xs.length c2)] : Array Value) 27 HB ?_; clear HB; intro g1 hg b7 hb B1 a9 HB; clear hb hg) | ((with_reducible refine gD 4 ?_); refine bz 4 (#[(.int .i64 now)] : Array Value) 3 HB ?_; clear HB; intro g2 hg b8 hb B2 b5 HB; have a0 := nP hg B1; have a5 := am a0.out.symm; replace B1 := kP B1 hb; clear hb hg) | ((with_reducible refine gD 6 ?_); refine bz 6 (#[(.string (⟨#[]⟩ : ByteArray)), (.string (⟨#[]⟩ : ByteArray)), (.slice none 0 0), (.int .i64 0), (.slice none 0 0)] : Array Value) 27 HB ?_; clear HB; intro g3 hg a8 hb B3 b6 HB; have a1 := nP hg B1; have a6 := am a1.out.symm; have a2 := nP hg B2; have a7 := am a2.out.symm; replace B1 := kP B1 hb; replace B2 := kP B2 hb; clear hb hg; obtain ⟨b0, b1, b2, b3, b4⟩ := ce5 B1.out; have k0 : a8.cell? ⟨g2, 0, none⟩ = some (.int .i64 now) := bc B2.out) | (go_at_call 50; refine (q3r 51 _ Try.func51 (by kernel_rfl) rfl #[.pointer (some ⟨g2, 0, none⟩)] (beatA k now) k ky nm A1 c1 ts is A2 c2 xs now a4 r _ (Kd.C_below HT.out HB.out) b9.out (Kd.C_below HC.out HB.out) (fun t s p A0 c0 ha hl W hW hA => beatc_calls k now g2 t s p A0 c0 ha hl W hA (q0b B2.out hW)) HH.out).mono ?_; rintro e w3 a3; obtain ⟨⟨v3, rfl, ho⟩, hb⟩ := runPost_ok H0.out a3; obtain ⟨A3, c3, e3⟩ := q1c.slice ho; subst e3; have H3 := am (q1c.base ho (q0p HB.out)); clear a3; replace B3 := kP B3 hb; replace HB := bS HB hb; clear B1 B2 k0 b0 b1 b2 b3 b4 hb; obtain ⟨d0, d1, d2, d3, d4⟩ := ce5 B3.out; obtain ⟨c6, c7, c8, c9, d5⟩ := z5 B3.out; clear ho))
  refine bodyPost_ret (q1a rfl _ _ g3 27 (#[(.string ky), (.string nm), (.slice A1 ts.length c1), (.int .i64 r.2.1), (.slice A3 r.2.2.length c3)] : Array Value) (0, 0) _ rfl (pP B3.out) Try.underlying27 rfl (by kernel_rfl)) rfl ?_
  exact ⟨.inl ⟨H0.out, _, rfl, (q1c.set (q1c.set (q1c.set (q1c.set (q1c.set H3.out (pP (cs' := #[(.string (⟨#[]⟩ : ByteArray)), (.string (⟨#[]⟩ : ByteArray)), (.slice none 0 0), (.int .i64 0), (.slice none 0 0)]) B3.out) (by decide) _ _) (pP (cs' := #[(.string ky), (.string (⟨#[]⟩ : ByteArray)), (.slice none 0 0), (.int .i64 0), (.slice none 0 0)]) B3.out) (by decide) _ _) (pP (cs' := #[(.string ky), (.string nm), (.slice none 0 0), (.int .i64 0), (.slice none 0 0)]) B3.out) (by decide) _ _) (pP (cs' := #[(.string ky), (.string nm), (.slice A1 ts.length c1), (.int .i64 0), (.slice none 0 0)]) B3.out) (by decide) _ _) (pP (cs' := #[(.string ky), (.string nm), (.slice A1 ts.length c1), (.int .i64 r.2.1), (.slice none 0 0)]) B3.out) (by decide) _ _)⟩, pB HB.out⟩
 have H0 := am h0
 clear h0
 go_enter Try.func19, Try.ntmps19
 go_wp2_with (first | ((with_reducible refine gD 3 ?_); refine bz 3 (#[(.string ky), (.string nm), (.slice A1 ts.length c1), (.int .i64 is), (.slice A2 xs.length c2)] : Array Value) 27 HB ?_; clear HB; intro g1 hg b7 hb B1 a9 HB; clear hb hg) | ((with_reducible refine gD 4 ?_); refine bz 4 (#[(.int .i64 now)] : Array Value) 3 HB ?_; clear HB; intro g2 hg b8 hb B2 b5 HB; have a0 := nP hg B1; have a5 := am a0.out.symm; replace B1 := kP B1 hb; clear hb hg) | ((with_reducible refine gD 6 ?_); refine bz 6 (#[(.string (⟨#[]⟩ : ByteArray)), (.string (⟨#[]⟩ : ByteArray)), (.slice none 0 0), (.int .i64 0), (.slice none 0 0)] : Array Value) 27 HB ?_; clear HB; intro g3 hg a8 hb B3 b6 HB; have a1 := nP hg B1; have a6 := am a1.out.symm; have a2 := nP hg B2; have a7 := am a2.out.symm; replace B1 := kP B1 hb; replace B2 := kP B2 hb; clear hb hg; obtain ⟨b0, b1, b2, b3, b4⟩ := ce5 B1.out; have k0 : a8.cell? ⟨g2, 0, none⟩ = some (.int .i64 now) := bc B2.out) | (go_at_call 50; refine (q3r 51 _ Try.func51 (by kernel_rfl) rfl #[.pointer (some ⟨g2, 0, none⟩)] (beatA k now) k ky nm A1 c1 ts is A2 c2 xs now a4 r _ (Kd.C_below HT.out HB.out) b9.out (Kd.C_below HC.out HB.out) (fun t s p A0 c0 ha hl W hW hA => beatc_calls k now g2 t s p A0 c0 ha hl W hA (q0b B2.out hW)) HH.out).mono ?_; rintro e w3 a3; obtain ⟨rfl, hb⟩ := q4w H0.out a3; clear a3; replace B3 := kP B3 hb; replace HB := bS HB hb; clear B1 B2 k0 b0 b1 b2 b3 b4 hb; obtain ⟨d0, d1, d2, d3, d4⟩ := ce5 B3.out; obtain ⟨c6, c7, c8, c9, d5⟩ := z5 B3.out))
 refine bodyPost_ret (q1a rfl _ _ g3 27 (#[(.string (⟨#[]⟩ : ByteArray)), (.string (⟨#[]⟩ : ByteArray)), (.slice none 0 0), (.int .i64 0), (.slice none 0 0)] : Array Value) (0, 0) _ rfl (pP B3.out) Try.underlying27 rfl (by kernel_rfl)) rfl ?_
 exact ⟨.inr ⟨H0.out, rfl⟩, pB HB.out⟩
set_option maxHeartbeats 2000000 in
set_option maxRecDepth 100000 in
theorem fail_calls (k : Nat) (ky nm : ByteArray) (A1 : Option Addr) (c1 : Nat) (ts : List S49) (is : Int) (A2 : Option Addr) (c2 : Nat) (xs : List S51) (now a4 : Int) (r : Int × Int × List S51) (w : World) (hT : Kd.C k49 w A1 ts.length ts) (ht : ts.length ≤ c1) (hC : Kd.C k51 w A2 xs.length xs) (h : heldO k ky nm ts is xs now a4 (failA k now) = some r) :
  Calls Try.prog 21 #[.agg #[(.string ky), (.string nm), (.slice A1 ts.length c1), (.int .i64 is), (.slice A2 xs.length c2)], .int .i64 now, .int .i64 a4] w fun e w' => runPost ky nm A1 c1 ts A2 c2 xs w r e w' := by
 have d6 := Try.underlying27
 have HC := am hC
 have HT := am hT
 have b9 := am ht
 have HH := am h
 have HB := am (Below.refl w.heap.size w)
 clear hT hC h ht
 by_cases h0 : r.1 = 0
 ·
  have H0 := am h0
  clear h0
  go_enter Try.func21, Try.ntmps21
  go_wp2_with (first | ((with_reducible refine gD 3 ?_); refine bz 3 (#[(.string ky), (.string nm), (.slice A1 ts.length c1), (.int .i64 is), (.slice A2 xs.length c2)] : Array Value) 27 HB ?_; clear HB; intro g1 hg b7 hb B1 a9 HB; clear hb hg) | ((with_reducible refine gD 4 ?_); refine bz 4 (#[(.int .i64 now)] : Array Value) 3 HB ?_; clear HB; intro g2 hg b8 hb B2 b5 HB; have a0 := nP hg B1; have a5 := am a0.out.symm; replace B1 := kP B1 hb; clear hb hg) | ((with_reducible refine gD 6 ?_); refine bz 6 (#[(.string (⟨#[]⟩ : ByteArray)), (.string (⟨#[]⟩ : ByteArray)), (.slice none 0 0), (.int .i64 0), (.slice none 0 0)] : Array Value) 27 HB ?_; clear HB; intro g3 hg a8 hb B3 b6 HB; have a1 := nP hg B1; have a6 := am a1.out.symm; have a2 := nP hg B2; have a7 := am a2.out.symm; replace B1 := kP B1 hb; replace B2 := kP B2 hb; clear hb hg; obtain ⟨b0, b1, b2, b3, b4⟩ := ce5 B1.out; have k0 : a8.cell? ⟨g2, 0, none⟩ = some (.int .i64 now) := bc B2.out) | (go_at_call 50; refine (q3r 55 _ Try.func55 (by kernel_rfl) rfl #[.pointer (some ⟨g2, 0, none⟩)] (failA k now) k ky nm A1 c1 ts is A2 c2 xs now a4 r _ (Kd.C_below HT.out HB.out) b9.out (Kd.C_below HC.out HB.out) (fun t s p A0 c0 ha hl W hW hA => failc_calls k now g2 t s p A0 c0 ha hl W hA (q0b B2.out hW)) HH.out).mono ?_; rintro e w3 a3; obtain ⟨⟨v3, rfl, ho⟩, hb⟩ := runPost_ok H0.out a3; obtain ⟨A3, c3, e3⟩ := q1c.slice ho; subst e3; have H3 := am (q1c.base ho (q0p HB.out)); clear a3; replace B3 := kP B3 hb; replace HB := bS HB hb; clear B1 B2 k0 b0 b1 b2 b3 b4 hb; obtain ⟨d0, d1, d2, d3, d4⟩ := ce5 B3.out; obtain ⟨c6, c7, c8, c9, d5⟩ := z5 B3.out; clear ho))
  refine bodyPost_ret (q1a rfl _ _ g3 27 (#[(.string ky), (.string nm), (.slice A1 ts.length c1), (.int .i64 r.2.1), (.slice A3 r.2.2.length c3)] : Array Value) (0, 0) _ rfl (pP B3.out) Try.underlying27 rfl (by kernel_rfl)) rfl ?_
  exact ⟨.inl ⟨H0.out, _, rfl, (q1c.set (q1c.set (q1c.set (q1c.set (q1c.set H3.out (pP (cs' := #[(.string (⟨#[]⟩ : ByteArray)), (.string (⟨#[]⟩ : ByteArray)), (.slice none 0 0), (.int .i64 0), (.slice none 0 0)]) B3.out) (by decide) _ _) (pP (cs' := #[(.string ky), (.string (⟨#[]⟩ : ByteArray)), (.slice none 0 0), (.int .i64 0), (.slice none 0 0)]) B3.out) (by decide) _ _) (pP (cs' := #[(.string ky), (.string nm), (.slice none 0 0), (.int .i64 0), (.slice none 0 0)]) B3.out) (by decide) _ _) (pP (cs' := #[(.string ky), (.string nm), (.slice A1 ts.length c1), (.int .i64 0), (.slice none 0 0)]) B3.out) (by decide) _ _) (pP (cs' := #[(.string ky), (.string nm), (.slice A1 ts.length c1), (.int .i64 r.2.1), (.slice none 0 0)]) B3.out) (by decide) _ _)⟩, pB HB.out⟩
 have H0 := am h0
 clear h0
 go_enter Try.func21, Try.ntmps21
 go_wp2_with (first | ((with_reducible refine gD 3 ?_); refine bz 3 (#[(.string ky), (.string nm), (.slice A1 ts.length c1), (.int .i64 is), (.slice A2 xs.length c2)] : Array Value) 27 HB ?_; clear HB; intro g1 hg b7 hb B1 a9 HB; clear hb hg) | ((with_reducible refine gD 4 ?_); refine bz 4 (#[(.int .i64 now)] : Array Value) 3 HB ?_; clear HB; intro g2 hg b8 hb B2 b5 HB; have a0 := nP hg B1; have a5 := am a0.out.symm; replace B1 := kP B1 hb; clear hb hg) | ((with_reducible refine gD 6 ?_); refine bz 6 (#[(.string (⟨#[]⟩ : ByteArray)), (.string (⟨#[]⟩ : ByteArray)), (.slice none 0 0), (.int .i64 0), (.slice none 0 0)] : Array Value) 27 HB ?_; clear HB; intro g3 hg a8 hb B3 b6 HB; have a1 := nP hg B1; have a6 := am a1.out.symm; have a2 := nP hg B2; have a7 := am a2.out.symm; replace B1 := kP B1 hb; replace B2 := kP B2 hb; clear hb hg; obtain ⟨b0, b1, b2, b3, b4⟩ := ce5 B1.out; have k0 : a8.cell? ⟨g2, 0, none⟩ = some (.int .i64 now) := bc B2.out) | (go_at_call 50; refine (q3r 55 _ Try.func55 (by kernel_rfl) rfl #[.pointer (some ⟨g2, 0, none⟩)] (failA k now) k ky nm A1 c1 ts is A2 c2 xs now a4 r _ (Kd.C_below HT.out HB.out) b9.out (Kd.C_below HC.out HB.out) (fun t s p A0 c0 ha hl W hW hA => failc_calls k now g2 t s p A0 c0 ha hl W hA (q0b B2.out hW)) HH.out).mono ?_; rintro e w3 a3; obtain ⟨rfl, hb⟩ := q4w H0.out a3; clear a3; replace B3 := kP B3 hb; replace HB := bS HB hb; clear B1 B2 k0 b0 b1 b2 b3 b4 hb; obtain ⟨d0, d1, d2, d3, d4⟩ := ce5 B3.out; obtain ⟨c6, c7, c8, c9, d5⟩ := z5 B3.out))
 refine bodyPost_ret (q1a rfl _ _ g3 27 (#[(.string (⟨#[]⟩ : ByteArray)), (.string (⟨#[]⟩ : ByteArray)), (.slice none 0 0), (.int .i64 0), (.slice none 0 0)] : Array Value) (0, 0) _ rfl (pP B3.out) Try.underlying27 rfl (by kernel_rfl)) rfl ?_
 exact ⟨.inr ⟨H0.out, rfl⟩, pB HB.out⟩
set_option maxHeartbeats 2000000 in
set_option maxRecDepth 100000 in
theorem done_calls (k : Nat) (ky nm : ByteArray) (A1 : Option Addr) (c1 : Nat) (ts : List S49) (is : Int) (A2 : Option Addr) (c2 : Nat) (xs : List S51) (now a4 : Int) (a8 : ByteArray) (r : Int × Int × List S51) (w : World) (hT : Kd.C k49 w A1 ts.length ts) (ht : ts.length ≤ c1) (hC : Kd.C k51 w A2 xs.length xs) (h : heldO k ky nm ts is xs now a4 (doneA a8) = some r) :
  Calls Try.prog 20 #[.agg #[(.string ky), (.string nm), (.slice A1 ts.length c1), (.int .i64 is), (.slice A2 xs.length c2)], .int .i64 now, .int .i64 a4, .string a8] w fun e w' => runPost ky nm A1 c1 ts A2 c2 xs w r e w' := by
 have d7 := Try.underlying27
 have HC := am hC
 have HT := am hT
 have c6 := am ht
 have HH := am h
 have HB := am (Below.refl w.heap.size w)
 clear hT hC h ht
 by_cases h0 : r.1 = 0
 ·
  have H0 := am h0
  clear h0
  go_enter Try.func20, Try.ntmps20
  go_wp2_with (first | ((with_reducible refine gD 4 ?_); refine bz 4 (#[(.string ky), (.string nm), (.slice A1 ts.length c1), (.int .i64 is), (.slice A2 xs.length c2)] : Array Value) 27 HB ?_; clear HB; intro g1 hg b7 hb B1 a9 HB; clear hb hg) | ((with_reducible refine gD 7 ?_); refine bz 7 (#[(.string a8)] : Array Value) 9 HB ?_; clear HB; intro g2 hg b8 hb B2 b5 HB; have a0 := nP hg B1; have a5 := am a0.out.symm; replace B1 := kP B1 hb; clear hb hg) | ((with_reducible refine gD 8 ?_); refine bz 8 (#[(.string (⟨#[]⟩ : ByteArray)), (.string (⟨#[]⟩ : ByteArray)), (.slice none 0 0), (.int .i64 0), (.slice none 0 0)] : Array Value) 27 HB ?_; clear HB; intro g3 hg b9 hb B3 b6 HB; have a1 := nP hg B1; have a6 := am a1.out.symm; have a2 := nP hg B2; have a7 := am a2.out.symm; replace B1 := kP B1 hb; replace B2 := kP B2 hb; clear hb hg; obtain ⟨b0, b1, b2, b3, b4⟩ := ce5 B1.out) | (go_at_call 50; refine (q3r 53 _ Try.func53 (by kernel_rfl) rfl #[.pointer (some ⟨g2, 0, none⟩)] (doneA a8) k ky nm A1 c1 ts is A2 c2 xs now a4 r _ (Kd.C_below HT.out HB.out) c6.out (Kd.C_below HC.out HB.out) (fun t s p A0 c0 ha hl W hW hA => donec_calls  a8 g2 t s p A0 c0 ha hl W hA (q0b B2.out hW)) HH.out).mono ?_; rintro e w3 a3; obtain ⟨⟨v3, rfl, ho⟩, hb⟩ := runPost_ok H0.out a3; obtain ⟨A3, c3, e3⟩ := q1c.slice ho; subst e3; have H3 := am (q1c.base ho (q0p HB.out)); clear a3; replace B3 := kP B3 hb; replace HB := bS HB hb; clear B1 B2 b0 b1 b2 b3 b4 hb; obtain ⟨d0, d1, d2, d3, d4⟩ := ce5 B3.out; obtain ⟨c7, c8, c9, d5, d6⟩ := z5 B3.out; clear ho))
  refine bodyPost_ret (q1a rfl _ _ g3 27 (#[(.string ky), (.string nm), (.slice A1 ts.length c1), (.int .i64 r.2.1), (.slice A3 r.2.2.length c3)] : Array Value) (0, 0) _ rfl (pP B3.out) Try.underlying27 rfl (by kernel_rfl)) rfl ?_
  exact ⟨.inl ⟨H0.out, _, rfl, (q1c.set (q1c.set (q1c.set (q1c.set (q1c.set H3.out (pP (cs' := #[(.string (⟨#[]⟩ : ByteArray)), (.string (⟨#[]⟩ : ByteArray)), (.slice none 0 0), (.int .i64 0), (.slice none 0 0)]) B3.out) (by decide) _ _) (pP (cs' := #[(.string ky), (.string (⟨#[]⟩ : ByteArray)), (.slice none 0 0), (.int .i64 0), (.slice none 0 0)]) B3.out) (by decide) _ _) (pP (cs' := #[(.string ky), (.string nm), (.slice none 0 0), (.int .i64 0), (.slice none 0 0)]) B3.out) (by decide) _ _) (pP (cs' := #[(.string ky), (.string nm), (.slice A1 ts.length c1), (.int .i64 0), (.slice none 0 0)]) B3.out) (by decide) _ _) (pP (cs' := #[(.string ky), (.string nm), (.slice A1 ts.length c1), (.int .i64 r.2.1), (.slice none 0 0)]) B3.out) (by decide) _ _)⟩, pB HB.out⟩
 have H0 := am h0
 clear h0
 go_enter Try.func20, Try.ntmps20
 go_wp2_with (first | ((with_reducible refine gD 4 ?_); refine bz 4 (#[(.string ky), (.string nm), (.slice A1 ts.length c1), (.int .i64 is), (.slice A2 xs.length c2)] : Array Value) 27 HB ?_; clear HB; intro g1 hg b7 hb B1 a9 HB; clear hb hg) | ((with_reducible refine gD 7 ?_); refine bz 7 (#[(.string a8)] : Array Value) 9 HB ?_; clear HB; intro g2 hg b8 hb B2 b5 HB; have a0 := nP hg B1; have a5 := am a0.out.symm; replace B1 := kP B1 hb; clear hb hg) | ((with_reducible refine gD 8 ?_); refine bz 8 (#[(.string (⟨#[]⟩ : ByteArray)), (.string (⟨#[]⟩ : ByteArray)), (.slice none 0 0), (.int .i64 0), (.slice none 0 0)] : Array Value) 27 HB ?_; clear HB; intro g3 hg b9 hb B3 b6 HB; have a1 := nP hg B1; have a6 := am a1.out.symm; have a2 := nP hg B2; have a7 := am a2.out.symm; replace B1 := kP B1 hb; replace B2 := kP B2 hb; clear hb hg; obtain ⟨b0, b1, b2, b3, b4⟩ := ce5 B1.out) | (go_at_call 50; refine (q3r 53 _ Try.func53 (by kernel_rfl) rfl #[.pointer (some ⟨g2, 0, none⟩)] (doneA a8) k ky nm A1 c1 ts is A2 c2 xs now a4 r _ (Kd.C_below HT.out HB.out) c6.out (Kd.C_below HC.out HB.out) (fun t s p A0 c0 ha hl W hW hA => donec_calls  a8 g2 t s p A0 c0 ha hl W hA (q0b B2.out hW)) HH.out).mono ?_; rintro e w3 a3; obtain ⟨rfl, hb⟩ := q4w H0.out a3; clear a3; replace B3 := kP B3 hb; replace HB := bS HB hb; clear B1 B2 b0 b1 b2 b3 b4 hb; obtain ⟨d0, d1, d2, d3, d4⟩ := ce5 B3.out; obtain ⟨c7, c8, c9, d5, d6⟩ := z5 B3.out))
 refine bodyPost_ret (q1a rfl _ _ g3 27 (#[(.string (⟨#[]⟩ : ByteArray)), (.string (⟨#[]⟩ : ByteArray)), (.slice none 0 0), (.int .i64 0), (.slice none 0 0)] : Array Value) (0, 0) _ rfl (pP B3.out) Try.underlying27 rfl (by kernel_rfl)) rfl ?_
 exact ⟨.inr ⟨H0.out, rfl⟩, pB HB.out⟩
namespace X
theorem F9.calls (k : Nat) (b0 b1 : ByteArray) (a0 : Nat → Prop) (a8 : Option Addr) (b3 : Nat) (a4 : List S49) (b2 : Int) (a3 : Nat → Prop) (a9 : Option Addr) (b4 : Nat) (a5 : List S51) (a1 a2 : Int) (r1 r2 : ByteArray) (r3 : List S49) (r4 : Int) (r5 : List S51) (r6 : Int) (w : World) (a6 : Kd.V k49 49 w w.heap.size (fun k_ => a0 k_) (.slice a8 a4.length b3) a4) (a7 : Kd.V k51 51 w w.heap.size (fun k_ => a3 k_) (.slice a9 a5.length b4) a5) (h : F9.f k b0 b1 a4 b2 a5 a1 a2 = some (r1, r2, r3, r4, r5, r6)) :
  Calls Try.prog 19 #[.agg #[.string b0, .string b1, .slice a8 a4.length b3, .int .i64 b2, .slice a9 a5.length b4], .int .i64 a1, .int .i64 a2] w fun e w' => ∃ b5 b6 : Value, e = .returned (.tuple #[.agg #[.string r1, .string r2, b5, .int .i64 r4, b6], .int .i64 r6]) ∧ Kd.V k49 49 w' w.heap.size (fun k_ => ((a0 k_ ∨ a3 k_) ∨ w.heap.size ≤ k_)) b5 r3 ∧ Kd.V k51 51 w' w.heap.size (fun k_ => ((a0 k_ ∨ a3 k_) ∨ w.heap.size ≤ k_)) b6 r5 ∧ Below w.heap.size w w' := by
 obtain ⟨o, ho, h⟩ := Option.bind_eq_some_iff.1 h
 obtain ⟨_, b8, b7⟩ := Kd.V_reads' a6
 refine (beat_calls k b0 b1 a8 b3 a4 b2 a9 b4 a5 a1 a2 o w b7 b8 (Kd.V_reads' a7).2.2 ho).mono ?_
 rintro e w' h1
 exact V_of_run a6 a7 h1 (Option.some.inj h)
theorem Gi.calls (k : Nat) (b0 b1 : ByteArray) (a0 : Nat → Prop) (a8 : Option Addr) (b3 : Nat) (a4 : List S49) (b2 : Int) (a3 : Nat → Prop) (a9 : Option Addr) (b4 : Nat) (a5 : List S51) (a1 a2 : Int) (r1 r2 : ByteArray) (r3 : List S49) (r4 : Int) (r5 : List S51) (r6 : Int) (w : World) (a6 : Kd.V k49 49 w w.heap.size (fun k_ => a0 k_) (.slice a8 a4.length b3) a4) (a7 : Kd.V k51 51 w w.heap.size (fun k_ => a3 k_) (.slice a9 a5.length b4) a5) (h : Gi.f k b0 b1 a4 b2 a5 a1 a2 = some (r1, r2, r3, r4, r5, r6)) :
  Calls Try.prog 21 #[.agg #[.string b0, .string b1, .slice a8 a4.length b3, .int .i64 b2, .slice a9 a5.length b4], .int .i64 a1, .int .i64 a2] w fun e w' => ∃ b5 b6 : Value, e = .returned (.tuple #[.agg #[.string r1, .string r2, b5, .int .i64 r4, b6], .int .i64 r6]) ∧ Kd.V k49 49 w' w.heap.size (fun k_ => ((a0 k_ ∨ a3 k_) ∨ w.heap.size ≤ k_)) b5 r3 ∧ Kd.V k51 51 w' w.heap.size (fun k_ => ((a0 k_ ∨ a3 k_) ∨ w.heap.size ≤ k_)) b6 r5 ∧ Below w.heap.size w w' := by
 obtain ⟨o, ho, h⟩ := Option.bind_eq_some_iff.1 h
 obtain ⟨_, b8, b7⟩ := Kd.V_reads' a6
 refine (fail_calls k b0 b1 a8 b3 a4 b2 a9 b4 a5 a1 a2 o w b7 b8 (Kd.V_reads' a7).2.2 ho).mono ?_
 rintro e w' h1
 exact V_of_run a6 a7 h1 (Option.some.inj h)
theorem Gh.calls (k : Nat) (b1 b2 : ByteArray) (a0 : Nat → Prop) (a9 : Option Addr) (b4 : Nat) (a5 : List S49) (b3 : Int) (a4 : Nat → Prop) (b0 : Option Addr) (b5 : Nat) (a6 : List S51) (a1 a2 : Int) (a3 : ByteArray) (r1 r2 : ByteArray) (r3 : List S49) (r4 : Int) (r5 : List S51) (r6 : Int) (w : World) (a7 : Kd.V k49 49 w w.heap.size (fun k_ => a0 k_) (.slice a9 a5.length b4) a5) (a8 : Kd.V k51 51 w w.heap.size (fun k_ => a4 k_) (.slice b0 a6.length b5) a6) (h : Gh.f k b1 b2 a5 b3 a6 a1 a2 a3 = some (r1, r2, r3, r4, r5, r6)) :
  Calls Try.prog 20 #[.agg #[.string b1, .string b2, .slice a9 a5.length b4, .int .i64 b3, .slice b0 a6.length b5], .int .i64 a1, .int .i64 a2, .string a3] w fun e w' => ∃ b6 b7 : Value, e = .returned (.tuple #[.agg #[.string r1, .string r2, b6, .int .i64 r4, b7], .int .i64 r6]) ∧ Kd.V k49 49 w' w.heap.size (fun k_ => ((a0 k_ ∨ a4 k_) ∨ w.heap.size ≤ k_)) b6 r3 ∧ Kd.V k51 51 w' w.heap.size (fun k_ => ((a0 k_ ∨ a4 k_) ∨ w.heap.size ≤ k_)) b7 r5 ∧ Below w.heap.size w w' := by
 obtain ⟨o, ho, h⟩ := Option.bind_eq_some_iff.1 h
 obtain ⟨_, b9, b8⟩ := Kd.V_reads' a7
 refine (done_calls k b1 b2 a9 b4 a5 b3 b0 b5 a6 a1 a2 a3 o w b8 b9 (Kd.V_reads' a8).2.2 ho).mono ?_
 rintro e w' h1
 exact V_of_run a7 a8 h1 (Option.some.inj h)
end X
end Go.Proofs.Ytabmkighhmchmaa
