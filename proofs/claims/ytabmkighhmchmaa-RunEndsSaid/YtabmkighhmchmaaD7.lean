/- Words and walks for the law RunEnds, joined and made small by a program of mine. -/
import Derived.Test.YtabmkighhmchmaaD6
import Derived.Test.YtabmkighhmchmaaD2
namespace Go.Proofs.Ytabmkighhmchmaa
open Go.RowKit Go.Shelf Go.Proofs.YtabmkighhmchmaaW.PrintWords Go.Proofs.YtabmkighhmchmaaW.PrintLast Go.Proofs.YtabmkighhmchmaaW.PrintMore Go.Proofs.YtabmkighhmchmaaW.Sq
open X (S49 S51 k49 k51 rd_T49 rd_T51 at_T49 at_T51 z51)
set_option linter.unusedVariables false
set_option linter.unusedSimpArgs false
attribute [local go_sem] Oper.semAt_some
def leasePost (ky nm : ByteArray) (A1 : Option Addr) (c1 : Nat) (ts : List S49) (A2 : Option Addr) (c2 : Nat) (xs : List S51) (w : World) (p : Int × Int × List S51 × Int) (e : Ending) (w' : World) : Prop :=
 ((p.1 = 0 ∧ ∃ v, e = .returned (.tuple #[.agg #[(.string ky), (.string nm), (.slice A1 ts.length c1), (.int .i64 p.2.1), v], .int .i64 p.2.2.2, .int .i64 0]) ∧ RowOf w w' A2 c2 xs v p.2.2.1) ∨
  (p.1 ≠ 0 ∧ e = .returned (.tuple #[zeroRun, .int .i64 0, .int .i64 p.1]))) ∧ Below w.heap.size w w'
theorem results_css {P : Program} {fn : Func} {p p' p2 : Tmp} {ty ty' ty2 : TypeId} (h : fn.results = #[.cell p ty, .cell p' ty', .cell p2 ty2]) (tmps : Array Value) (w : World) (g g' g2 : Nat) (t : TypeId) (cs : Array Value) (fr : Nat × Nat) (d : TypeDesc) (v v2 : Value)
  (hp : tmps.getD p undef = .pointer (some ⟨g, 0, none⟩)) (hg : w.heap[g]? = some (.cells cs t fr))
  (hu : P.underlying ty = some d) (hd : (match d with | .struct _ | .array _ _ => true | _ => false) = true) (hi : (P.info? ty).map (·.size) = some cs.size)
  (a1 : tmps.getD p' undef = .pointer (some ⟨g', 0, none⟩)) (hl : (loadVar ty' ⟨g', 0, none⟩).run P w = .ok v w)
  (a2 : tmps.getD p2 undef = .pointer (some ⟨g2, 0, none⟩)) (a0 : (loadVar ty2 ⟨g2, 0, none⟩).run P w = .ok v2 w) :
  (results fn tmps).run P w = .ok (.tuple #[.agg cs, v, v2]) w := by
 have h1 : tmps[p]?.getD undef = .pointer (some ⟨g, 0, none⟩) := by simpa using hp
 have h2 : tmps[p']?.getD undef = .pointer (some ⟨g', 0, none⟩) := by simpa using a1
 have h3 : tmps[p2]?.getD undef = .pointer (some ⟨g2, 0, none⟩) := by simpa using a2
 simp [results, h, h1, h2, h3, asAddr, run_loadVar_row w g t ty cs fr d hg hu hd hi, hl, a0]
theorem load3 (w : World) (g : Nat) (v : Value) (h : w.cell? ⟨g, 0, none⟩ = some v) : (loadVar 3 ⟨g, 0, none⟩).run Try.prog w = .ok v w := by
 have hu := Try.underlying3
 simp [loadVar, hu, h, go_sem]
def notOk (k : Nat) (ts : List S49) (ys : List S51) (now token : Int) (x : Fin ys.length) : Prop := ∀ p, leaseO k (rd_T49 ts (x.val : Int)) (rd_T51 ys (x.val : Int)) now token = some p → p.2 ≠ 0
theorem leaseL_skip (k : Nat) (ts : List S49) (ys : List S51) (now token : Int) (hg : goodLease k ts ys now token = true) : ∀ (a0 l : List (Fin ys.length)), (∀ y ∈ a0, notOk k ts ys now token y) → leaseL k ts ys now token (a0 ++ l) = leaseL k ts ys now token l
 | [], l, _ => rfl
 | x :: a0, l, h => by
  have ih := leaseL_skip k ts ys now token hg a0 l (fun y hy => h y (List.mem_cons_of_mem _ hy))
  obtain ⟨p, hp⟩ := Option.isSome_iff_exists.1 (List.all_eq_true.1 hg x (List.mem_finRange x))
  rw [List.cons_append, leaseL, hp, Option.bind_some, if_neg (h x (List.mem_cons_self ..) p hp), ih]
set_option maxHeartbeats 8000000 in
set_option maxRecDepth 100000 in
theorem lease_calls (k : Nat) (ky nm : ByteArray) (A1 : Option Addr) (c1 : Nat) (ts : List S49) (is : Int) (A2 : Option Addr) (c2 : Nat) (xs : List S51) (now token : Int) (r : Int × Int × List S51 × Int) (w : World) (hT : Kd.C k49 w A1 ts.length ts) (ht : ts.length ≤ c1) (hC : Kd.C k51 w A2 xs.length xs)
  (h : runLeaseO k ky nm ts is xs now token = some r) :
  Calls Try.prog 23 #[.agg #[(.string ky), (.string nm), (.slice A1 ts.length c1), (.int .i64 is), (.slice A2 xs.length c2)], .int .i64 now, .int .i64 token] w fun e w' => leasePost ky nm A1 c1 ts A2 c2 xs w r e w' := by
 have t7 := Try.underlying27
 have t5 := Try.underlying24
 have t8 := Try.underlying49
 have t9 := Try.underlying51
 have s9 := Try.underlying22
 have t6 := Try.underlying25
 have HC := am hC
 have HT := am hT
 have n1 := am ht
 have HB := am (Below.refl w.heap.size w)
 obtain ⟨so, r5, h_⟩ := Option.bind_eq_some_iff.1 h
 have HO := am r5
 clear hT hC ht r5 h
 rcases so with _ | ⟨is', ys⟩
 ·
  obtain rfl := Option.some.inj h_
  clear h_
  go_enter Try.func23, Try.ntmps23
  go_wp2_with (first | ((with_reducible refine gD 3 ?_); refine bz 3 (#[(.string ky), (.string nm), (.slice A1 ts.length c1), (.int .i64 is), (.slice A2 xs.length c2)] : Array Value) 27 HB ?_; clear HB; intro g3 hg l2 hb B3 k6 HB; clear hb hg) | ((with_reducible refine gD 4 ?_); refine bz 4 (#[(.int .i64 now)] : Array Value) 3 HB ?_; clear HB; intro g4 hg l3 hb B4 k7 HB; have c8 := nP hg B3; have i0 := am c8.out.symm; replace B3 := kP B3 hb; clear hb hg) | ((with_reducible refine gD 5 ?_); refine bz 5 (#[(.int .i64 token)] : Array Value) 3 HB ?_; clear HB; intro g5 hg l4 hb B5 k8 HB; have d5 := nP hg B3; have i1 := am d5.out.symm; have d6 := nP hg B4; have i2 := am d6.out.symm; replace B3 := kP B3 hb; replace B4 := kP B4 hb; clear hb hg) | ((with_reducible refine gD 6 ?_); refine bz 6 (#[(.string (⟨#[]⟩ : ByteArray)), (.string (⟨#[]⟩ : ByteArray)), (.slice none 0 0), (.int .i64 0), (.slice none 0 0)] : Array Value) 27 HB ?_; clear HB; intro g6 hg l5 hb B6 k9 HB; have b8 := nP hg B3; have g2 := am b8.out.symm; have d7 := nP hg B4; have i3 := am d7.out.symm; have e0 := nP hg B5; have i4 := am e0.out.symm; replace B3 := kP B3 hb; replace B4 := kP B4 hb; replace B5 := kP B5 hb; clear hb hg) | ((with_reducible refine gD 7 ?_); refine bz 7 (#[(.int .i64 0)] : Array Value) 3 HB ?_; clear HB; intro g7 hg l6 hb B7 l0 HB; have b9 := nP hg B3; have g9 := am b9.out.symm; have d8 := nP hg B4; have i5 := am d8.out.symm; have f5 := nP hg B5; have i6 := am f5.out.symm; have a6 := nP hg B6; have a9 := am a6.out.symm; replace B3 := kP B3 hb; replace B4 := kP B4 hb; replace B5 := kP B5 hb; replace B6 := kP B6 hb; clear hb hg) | ((with_reducible refine gD 8 ?_); refine bz 8 (#[(.int .i64 0)] : Array Value) 29 HB ?_; clear HB; intro g8 hg i9 hb B8 l1 HB; have c6 := nP hg B3; have h0 := am c6.out.symm; have d9 := nP hg B4; have i7 := am d9.out.symm; have f6 := nP hg B5; have i8 := am f6.out.symm; have a7 := nP hg B6; have b5 := am a7.out.symm; have a8 := nP hg B7; have b6 := am a8.out.symm; replace B3 := kP B3 hb; replace B4 := kP B4 hb; replace B5 := kP B5 hb; replace B6 := kP B6 hb; replace B7 := kP B7 hb; clear hb hg; obtain ⟨b0, b1, b2, b3, b4⟩ := ce5 B3.out; have k4 : i9.cell? ⟨g4, 0, none⟩ = some (.int .i64 now) := bc B4.out) | (go_at_call 14; refine (settle_calls k ky nm A1 c1 ts is A2 c2 xs now _ _ (Kd.C_below HT.out HB.out) n1.out (Kd.C_below HC.out HB.out) HO.out).mono ?_; rintro e w3 ⟨rfl, hb⟩; replace B3 := kP B3 hb; replace B4 := kP B4 hb; replace B5 := kP B5 hb; replace B6 := kP B6 hb; replace B7 := kP B7 hb; replace B8 := kP B8 hb; replace HB := bS HB hb; clear b0 b1 b2 b3 b4 k4 hb; obtain ⟨b0, b1, b2, b3, b4⟩ := ce5 B3.out; obtain ⟨k0, k1, k2, k3, j2⟩ := z5 B3.out; obtain ⟨d0, d1, d2, d3, d4⟩ := ce5 B6.out; obtain ⟨j3, j4, j5, j6, j7⟩ := z5 B6.out; have q0 := ce1 B7.out; have j8 := z1 B7.out; have u0 := ce1 B8.out; have j9 := z1 B8.out; have l8 := a6.out; have m0 := a9.out; have l9 := a7.out; have m2 := b5.out; have m1 := a8.out; have m3 := b6.out; have w2 := b8.out; have x7 := g2.out; have w6 := b9.out; have x9 := g9.out; have x5 := c6.out; have y7 := h0.out))
  refine bodyPost_ret (results_css rfl _ _ g6 g7 g8 27 (#[(.string (⟨#[]⟩ : ByteArray)), (.string (⟨#[]⟩ : ByteArray)), (.slice none 0 0), (.int .i64 0), (.slice none 0 0)] : Array Value) (0, 0) _ (.int .i64 0) (.int .i64 1) rfl (pP B6.out) Try.underlying27 rfl (by kernel_rfl) rfl (load3 _ _ _ ((blk_cell (pP (cs' := #[.int .i64 0]) B7.out) 0).trans rfl)) rfl (load29 _ _ _ ((blk_cell (pP (cs' := #[.int .i64 1]) B8.out) 0).trans rfl))) rfl ?_
  exact ⟨.inr ⟨by decide, rfl⟩, pB HB.out⟩
 have n0 := am (settleO_len HO.out)
 have b7 : (if token < 1 then (some (1, 0, [], 0) : Option (Int × Int × List S51 × Int)) else if 1099511627776 < token then some (1, 0, [], 0) else if noTok token ys = false then some (1, 0, [], 0) else if is' ≠ 0 then some (192, 0, [], 0) else if goodLease k ts ys now token = false then none else (leaseL k ts ys now token (List.finRange ys.length)).bind fun o => match o with | none => some (192, 0, [], 0) | some (i, s) => some (0, is', ys.set i.val s, (i.val : Int))) = some r := h_
 clear h_
 by_cases m7 : token < 1
 ·
  rw [if_pos m7] at b7
  obtain rfl := Option.some.inj b7
  have E1 := decide_eq_true m7
  clear m7 b7
  go_enter Try.func23, Try.ntmps23
  go_upto_region 2 with (first | ((with_reducible refine gD 3 ?_); refine bz 3 (#[(.string ky), (.string nm), (.slice A1 ts.length c1), (.int .i64 is), (.slice A2 xs.length c2)] : Array Value) 27 HB ?_; clear HB; intro g3 hg l2 hb B3 k6 HB; clear hb hg) | ((with_reducible refine gD 4 ?_); refine bz 4 (#[(.int .i64 now)] : Array Value) 3 HB ?_; clear HB; intro g4 hg l3 hb B4 k7 HB; have c8 := nP hg B3; have i0 := am c8.out.symm; replace B3 := kP B3 hb; clear hb hg) | ((with_reducible refine gD 5 ?_); refine bz 5 (#[(.int .i64 token)] : Array Value) 3 HB ?_; clear HB; intro g5 hg l4 hb B5 k8 HB; have d5 := nP hg B3; have i1 := am d5.out.symm; have d6 := nP hg B4; have i2 := am d6.out.symm; replace B3 := kP B3 hb; replace B4 := kP B4 hb; clear hb hg) | ((with_reducible refine gD 6 ?_); refine bz 6 (#[(.string (⟨#[]⟩ : ByteArray)), (.string (⟨#[]⟩ : ByteArray)), (.slice none 0 0), (.int .i64 0), (.slice none 0 0)] : Array Value) 27 HB ?_; clear HB; intro g6 hg l5 hb B6 k9 HB; have b8 := nP hg B3; have g2 := am b8.out.symm; have d7 := nP hg B4; have i3 := am d7.out.symm; have e0 := nP hg B5; have i4 := am e0.out.symm; replace B3 := kP B3 hb; replace B4 := kP B4 hb; replace B5 := kP B5 hb; clear hb hg) | ((with_reducible refine gD 7 ?_); refine bz 7 (#[(.int .i64 0)] : Array Value) 3 HB ?_; clear HB; intro g7 hg l6 hb B7 l0 HB; have b9 := nP hg B3; have g9 := am b9.out.symm; have d8 := nP hg B4; have i5 := am d8.out.symm; have f5 := nP hg B5; have i6 := am f5.out.symm; have a6 := nP hg B6; have a9 := am a6.out.symm; replace B3 := kP B3 hb; replace B4 := kP B4 hb; replace B5 := kP B5 hb; replace B6 := kP B6 hb; clear hb hg) | ((with_reducible refine gD 8 ?_); refine bz 8 (#[(.int .i64 0)] : Array Value) 29 HB ?_; clear HB; intro g8 hg i9 hb B8 l1 HB; have c6 := nP hg B3; have h0 := am c6.out.symm; have d9 := nP hg B4; have i7 := am d9.out.symm; have f6 := nP hg B5; have i8 := am f6.out.symm; have a7 := nP hg B6; have b5 := am a7.out.symm; have a8 := nP hg B7; have b6 := am a8.out.symm; replace B3 := kP B3 hb; replace B4 := kP B4 hb; replace B5 := kP B5 hb; replace B6 := kP B6 hb; replace B7 := kP B7 hb; clear hb hg; obtain ⟨b0, b1, b2, b3, b4⟩ := ce5 B3.out; have k4 : i9.cell? ⟨g4, 0, none⟩ = some (.int .i64 now) := bc B4.out) | (go_at_call 14; refine (settle_calls k ky nm A1 c1 ts is A2 c2 xs now _ _ (Kd.C_below HT.out HB.out) n1.out (Kd.C_below HC.out HB.out) HO.out).mono ?_; rintro e w3 ⟨⟨v3, rfl, ho⟩, hb⟩; obtain ⟨A3, c3, e3⟩ := RowOf.slice ho; (try dsimp only at e3); subst e3; have H3 := am (RowOf.base ho (below_size HB.out)); replace B3 := kP B3 hb; replace B4 := kP B4 hb; replace B5 := kP B5 hb; replace B6 := kP B6 hb; replace B7 := kP B7 hb; replace B8 := kP B8 hb; replace HB := bS HB hb; clear b0 b1 b2 b3 b4 k4 hb; obtain ⟨b0, b1, b2, b3, b4⟩ := ce5 B3.out; obtain ⟨k0, k1, k2, k3, j2⟩ := z5 B3.out; clear ho))
  have X3 := am (show (((((w3.setCell ⟨g3, 0, none⟩ (.string ky)).setCell ⟨g3, 1, none⟩ (.string nm)).setCell ⟨g3, 2, none⟩ (.slice A1 ts.length c1)).setCell ⟨g3, 3, none⟩ (.int .i64 is')).setCell ⟨g3, 4, none⟩ (.slice A3 ys.length c3)).heap[g3]? = some (.cells (#[(.string ky), (.string nm), (.slice A1 ts.length c1), (.int .i64 is'), (.slice A3 ys.length c3)] : Array Value) 27 (0, 0)) from pP B3.out)
  have X4 := am (show (((((w3.setCell ⟨g3, 0, none⟩ (.string ky)).setCell ⟨g3, 1, none⟩ (.string nm)).setCell ⟨g3, 2, none⟩ (.slice A1 ts.length c1)).setCell ⟨g3, 3, none⟩ (.int .i64 is')).setCell ⟨g3, 4, none⟩ (.slice A3 ys.length c3)).heap[g4]? = some (.cells (#[(.int .i64 now)] : Array Value) 3 (0, 0)) from pP B4.out)
  have X5 := am (show (((((w3.setCell ⟨g3, 0, none⟩ (.string ky)).setCell ⟨g3, 1, none⟩ (.string nm)).setCell ⟨g3, 2, none⟩ (.slice A1 ts.length c1)).setCell ⟨g3, 3, none⟩ (.int .i64 is')).setCell ⟨g3, 4, none⟩ (.slice A3 ys.length c3)).heap[g5]? = some (.cells (#[(.int .i64 token)] : Array Value) 3 (0, 0)) from pP B5.out)
  have X6 := am (show (((((w3.setCell ⟨g3, 0, none⟩ (.string ky)).setCell ⟨g3, 1, none⟩ (.string nm)).setCell ⟨g3, 2, none⟩ (.slice A1 ts.length c1)).setCell ⟨g3, 3, none⟩ (.int .i64 is')).setCell ⟨g3, 4, none⟩ (.slice A3 ys.length c3)).heap[g6]? = some (.cells (#[(.string (⟨#[]⟩ : ByteArray)), (.string (⟨#[]⟩ : ByteArray)), (.slice none 0 0), (.int .i64 0), (.slice none 0 0)] : Array Value) 27 (0, 0)) from pP B6.out)
  have X7 := am (show (((((w3.setCell ⟨g3, 0, none⟩ (.string ky)).setCell ⟨g3, 1, none⟩ (.string nm)).setCell ⟨g3, 2, none⟩ (.slice A1 ts.length c1)).setCell ⟨g3, 3, none⟩ (.int .i64 is')).setCell ⟨g3, 4, none⟩ (.slice A3 ys.length c3)).heap[g7]? = some (.cells (#[(.int .i64 0)] : Array Value) 3 (0, 0)) from pP B7.out)
  have X8 := am (show (((((w3.setCell ⟨g3, 0, none⟩ (.string ky)).setCell ⟨g3, 1, none⟩ (.string nm)).setCell ⟨g3, 2, none⟩ (.slice A1 ts.length c1)).setCell ⟨g3, 3, none⟩ (.int .i64 is')).setCell ⟨g3, 4, none⟩ (.slice A3 ys.length c3)).heap[g8]? = some (.cells (#[(.int .i64 0)] : Array Value) 29 (0, 0)) from pP B8.out)
  have XR := am (show RowOf w (((((w3.setCell ⟨g3, 0, none⟩ (.string ky)).setCell ⟨g3, 1, none⟩ (.string nm)).setCell ⟨g3, 2, none⟩ (.slice A1 ts.length c1)).setCell ⟨g3, 3, none⟩ (.int .i64 is')).setCell ⟨g3, 4, none⟩ (.slice A3 ys.length c3)) A2 c2 xs (.slice A3 ys.length c3) ys from (RowOf.set (RowOf.set (RowOf.set (RowOf.set (RowOf.set H3.out (pP (cs' := #[(.string ky), (.string nm), (.slice A1 ts.length c1), (.int .i64 is), (.slice A2 xs.length c2)]) B3.out) (by decide) _ _) (pP (cs' := #[(.string ky), (.string nm), (.slice A1 ts.length c1), (.int .i64 is), (.slice A2 xs.length c2)]) B3.out) (by decide) _ _) (pP (cs' := #[(.string ky), (.string nm), (.slice A1 ts.length c1), (.int .i64 is), (.slice A2 xs.length c2)]) B3.out) (by decide) _ _) (pP (cs' := #[(.string ky), (.string nm), (.slice A1 ts.length c1), (.int .i64 is), (.slice A2 xs.length c2)]) B3.out) (by decide) _ _) (pP (cs' := #[(.string ky), (.string nm), (.slice A1 ts.length c1), (.int .i64 is'), (.slice A2 xs.length c2)]) B3.out) (by decide) _ _))
  have XB := am (show Below w.heap.size w (((((w3.setCell ⟨g3, 0, none⟩ (.string ky)).setCell ⟨g3, 1, none⟩ (.string nm)).setCell ⟨g3, 2, none⟩ (.slice A1 ts.length c1)).setCell ⟨g3, 3, none⟩ (.int .i64 is')).setCell ⟨g3, 4, none⟩ (.slice A3 ys.length c3)) from pB HB.out)
  clear H3 HB B3 B4 B5 B6 B7 B8 b0 b1 b2 b3 b4 k0 k1 k2 k3 j2
  have B3 := X3
  have B4 := X4
  have B5 := X5
  have B6 := X6
  have B7 := X7
  have B8 := X8
  have H3 := XR
  have HB := XB
  clear XR XB X3 X4 X5 X6 X7 X8
  generalize (((((w3.setCell ⟨g3, 0, none⟩ (.string ky)).setCell ⟨g3, 1, none⟩ (.string nm)).setCell ⟨g3, 2, none⟩ (.slice A1 ts.length c1)).setCell ⟨g3, 3, none⟩ (.int .i64 is')).setCell ⟨g3, 4, none⟩ (.slice A3 ys.length c3)) = w4 at *
  obtain ⟨b0, b1, b2, b3, b4⟩ := ce5 B3.out
  have k5 : w4.cell? ⟨g5, 0, none⟩ = some (.int .i64 token) := bc B5.out
  obtain ⟨d0, d1, d2, d3, d4⟩ := ce5 B6.out
  obtain ⟨j3, j4, j5, j6, j7⟩ := z5 B6.out
  have q0 := ce1 B7.out
  have j8 := z1 B7.out
  have u0 := ce1 B8.out
  have j9 := z1 B8.out
  have l8 := a6.out
  have m0 := a9.out
  have l9 := a7.out
  have m2 := b5.out
  have m1 := a8.out
  have m3 := b6.out
  go_wp2
  refine bodyPost_ret (results_css rfl _ _ g6 g7 g8 27 (#[(.string (⟨#[]⟩ : ByteArray)), (.string (⟨#[]⟩ : ByteArray)), (.slice none 0 0), (.int .i64 0), (.slice none 0 0)] : Array Value) (0, 0) _ (.int .i64 0) (.int .i64 1) rfl (pP B6.out) Try.underlying27 rfl (by kernel_rfl) rfl (load3 _ _ _ ((blk_cell (pP (cs' := #[.int .i64 0]) B7.out) 0).trans rfl)) rfl (load29 _ _ _ ((blk_cell (pP (cs' := #[.int .i64 1]) B8.out) 0).trans rfl))) rfl ?_
  exact ⟨.inr ⟨by decide, rfl⟩, pB HB.out⟩
 rw [if_neg m7] at b7
 have E1 := decide_eq_false m7
 have v4 := am m7
 clear m7
 by_cases m8 : 1099511627776 < token
 ·
  rw [if_pos m8] at b7
  obtain rfl := Option.some.inj b7
  have E2 := decide_eq_true m8
  have v2 : decide (token > 1099511627776) = true := E2
  clear m8 b7
  go_enter Try.func23, Try.ntmps23
  go_upto_region 2 with (first | ((with_reducible refine gD 3 ?_); refine bz 3 (#[(.string ky), (.string nm), (.slice A1 ts.length c1), (.int .i64 is), (.slice A2 xs.length c2)] : Array Value) 27 HB ?_; clear HB; intro g3 hg l2 hb B3 k6 HB; clear hb hg) | ((with_reducible refine gD 4 ?_); refine bz 4 (#[(.int .i64 now)] : Array Value) 3 HB ?_; clear HB; intro g4 hg l3 hb B4 k7 HB; have c8 := nP hg B3; have i0 := am c8.out.symm; replace B3 := kP B3 hb; clear hb hg) | ((with_reducible refine gD 5 ?_); refine bz 5 (#[(.int .i64 token)] : Array Value) 3 HB ?_; clear HB; intro g5 hg l4 hb B5 k8 HB; have d5 := nP hg B3; have i1 := am d5.out.symm; have d6 := nP hg B4; have i2 := am d6.out.symm; replace B3 := kP B3 hb; replace B4 := kP B4 hb; clear hb hg) | ((with_reducible refine gD 6 ?_); refine bz 6 (#[(.string (⟨#[]⟩ : ByteArray)), (.string (⟨#[]⟩ : ByteArray)), (.slice none 0 0), (.int .i64 0), (.slice none 0 0)] : Array Value) 27 HB ?_; clear HB; intro g6 hg l5 hb B6 k9 HB; have b8 := nP hg B3; have g2 := am b8.out.symm; have d7 := nP hg B4; have i3 := am d7.out.symm; have e0 := nP hg B5; have i4 := am e0.out.symm; replace B3 := kP B3 hb; replace B4 := kP B4 hb; replace B5 := kP B5 hb; clear hb hg) | ((with_reducible refine gD 7 ?_); refine bz 7 (#[(.int .i64 0)] : Array Value) 3 HB ?_; clear HB; intro g7 hg l6 hb B7 l0 HB; have b9 := nP hg B3; have g9 := am b9.out.symm; have d8 := nP hg B4; have i5 := am d8.out.symm; have f5 := nP hg B5; have i6 := am f5.out.symm; have a6 := nP hg B6; have a9 := am a6.out.symm; replace B3 := kP B3 hb; replace B4 := kP B4 hb; replace B5 := kP B5 hb; replace B6 := kP B6 hb; clear hb hg) | ((with_reducible refine gD 8 ?_); refine bz 8 (#[(.int .i64 0)] : Array Value) 29 HB ?_; clear HB; intro g8 hg i9 hb B8 l1 HB; have c6 := nP hg B3; have h0 := am c6.out.symm; have d9 := nP hg B4; have i7 := am d9.out.symm; have f6 := nP hg B5; have i8 := am f6.out.symm; have a7 := nP hg B6; have b5 := am a7.out.symm; have a8 := nP hg B7; have b6 := am a8.out.symm; replace B3 := kP B3 hb; replace B4 := kP B4 hb; replace B5 := kP B5 hb; replace B6 := kP B6 hb; replace B7 := kP B7 hb; clear hb hg; obtain ⟨b0, b1, b2, b3, b4⟩ := ce5 B3.out; have k4 : i9.cell? ⟨g4, 0, none⟩ = some (.int .i64 now) := bc B4.out) | (go_at_call 14; refine (settle_calls k ky nm A1 c1 ts is A2 c2 xs now _ _ (Kd.C_below HT.out HB.out) n1.out (Kd.C_below HC.out HB.out) HO.out).mono ?_; rintro e w3 ⟨⟨v3, rfl, ho⟩, hb⟩; obtain ⟨A3, c3, e3⟩ := RowOf.slice ho; (try dsimp only at e3); subst e3; have H3 := am (RowOf.base ho (below_size HB.out)); replace B3 := kP B3 hb; replace B4 := kP B4 hb; replace B5 := kP B5 hb; replace B6 := kP B6 hb; replace B7 := kP B7 hb; replace B8 := kP B8 hb; replace HB := bS HB hb; clear b0 b1 b2 b3 b4 k4 hb; obtain ⟨b0, b1, b2, b3, b4⟩ := ce5 B3.out; obtain ⟨k0, k1, k2, k3, j2⟩ := z5 B3.out; clear ho))
  have X3 := am (show (((((w3.setCell ⟨g3, 0, none⟩ (.string ky)).setCell ⟨g3, 1, none⟩ (.string nm)).setCell ⟨g3, 2, none⟩ (.slice A1 ts.length c1)).setCell ⟨g3, 3, none⟩ (.int .i64 is')).setCell ⟨g3, 4, none⟩ (.slice A3 ys.length c3)).heap[g3]? = some (.cells (#[(.string ky), (.string nm), (.slice A1 ts.length c1), (.int .i64 is'), (.slice A3 ys.length c3)] : Array Value) 27 (0, 0)) from pP B3.out)
  have X4 := am (show (((((w3.setCell ⟨g3, 0, none⟩ (.string ky)).setCell ⟨g3, 1, none⟩ (.string nm)).setCell ⟨g3, 2, none⟩ (.slice A1 ts.length c1)).setCell ⟨g3, 3, none⟩ (.int .i64 is')).setCell ⟨g3, 4, none⟩ (.slice A3 ys.length c3)).heap[g4]? = some (.cells (#[(.int .i64 now)] : Array Value) 3 (0, 0)) from pP B4.out)
  have X5 := am (show (((((w3.setCell ⟨g3, 0, none⟩ (.string ky)).setCell ⟨g3, 1, none⟩ (.string nm)).setCell ⟨g3, 2, none⟩ (.slice A1 ts.length c1)).setCell ⟨g3, 3, none⟩ (.int .i64 is')).setCell ⟨g3, 4, none⟩ (.slice A3 ys.length c3)).heap[g5]? = some (.cells (#[(.int .i64 token)] : Array Value) 3 (0, 0)) from pP B5.out)
  have X6 := am (show (((((w3.setCell ⟨g3, 0, none⟩ (.string ky)).setCell ⟨g3, 1, none⟩ (.string nm)).setCell ⟨g3, 2, none⟩ (.slice A1 ts.length c1)).setCell ⟨g3, 3, none⟩ (.int .i64 is')).setCell ⟨g3, 4, none⟩ (.slice A3 ys.length c3)).heap[g6]? = some (.cells (#[(.string (⟨#[]⟩ : ByteArray)), (.string (⟨#[]⟩ : ByteArray)), (.slice none 0 0), (.int .i64 0), (.slice none 0 0)] : Array Value) 27 (0, 0)) from pP B6.out)
  have X7 := am (show (((((w3.setCell ⟨g3, 0, none⟩ (.string ky)).setCell ⟨g3, 1, none⟩ (.string nm)).setCell ⟨g3, 2, none⟩ (.slice A1 ts.length c1)).setCell ⟨g3, 3, none⟩ (.int .i64 is')).setCell ⟨g3, 4, none⟩ (.slice A3 ys.length c3)).heap[g7]? = some (.cells (#[(.int .i64 0)] : Array Value) 3 (0, 0)) from pP B7.out)
  have X8 := am (show (((((w3.setCell ⟨g3, 0, none⟩ (.string ky)).setCell ⟨g3, 1, none⟩ (.string nm)).setCell ⟨g3, 2, none⟩ (.slice A1 ts.length c1)).setCell ⟨g3, 3, none⟩ (.int .i64 is')).setCell ⟨g3, 4, none⟩ (.slice A3 ys.length c3)).heap[g8]? = some (.cells (#[(.int .i64 0)] : Array Value) 29 (0, 0)) from pP B8.out)
  have XR := am (show RowOf w (((((w3.setCell ⟨g3, 0, none⟩ (.string ky)).setCell ⟨g3, 1, none⟩ (.string nm)).setCell ⟨g3, 2, none⟩ (.slice A1 ts.length c1)).setCell ⟨g3, 3, none⟩ (.int .i64 is')).setCell ⟨g3, 4, none⟩ (.slice A3 ys.length c3)) A2 c2 xs (.slice A3 ys.length c3) ys from (RowOf.set (RowOf.set (RowOf.set (RowOf.set (RowOf.set H3.out (pP (cs' := #[(.string ky), (.string nm), (.slice A1 ts.length c1), (.int .i64 is), (.slice A2 xs.length c2)]) B3.out) (by decide) _ _) (pP (cs' := #[(.string ky), (.string nm), (.slice A1 ts.length c1), (.int .i64 is), (.slice A2 xs.length c2)]) B3.out) (by decide) _ _) (pP (cs' := #[(.string ky), (.string nm), (.slice A1 ts.length c1), (.int .i64 is), (.slice A2 xs.length c2)]) B3.out) (by decide) _ _) (pP (cs' := #[(.string ky), (.string nm), (.slice A1 ts.length c1), (.int .i64 is), (.slice A2 xs.length c2)]) B3.out) (by decide) _ _) (pP (cs' := #[(.string ky), (.string nm), (.slice A1 ts.length c1), (.int .i64 is'), (.slice A2 xs.length c2)]) B3.out) (by decide) _ _))
  have XB := am (show Below w.heap.size w (((((w3.setCell ⟨g3, 0, none⟩ (.string ky)).setCell ⟨g3, 1, none⟩ (.string nm)).setCell ⟨g3, 2, none⟩ (.slice A1 ts.length c1)).setCell ⟨g3, 3, none⟩ (.int .i64 is')).setCell ⟨g3, 4, none⟩ (.slice A3 ys.length c3)) from pB HB.out)
  clear H3 HB B3 B4 B5 B6 B7 B8 b0 b1 b2 b3 b4 k0 k1 k2 k3 j2
  have B3 := X3
  have B4 := X4
  have B5 := X5
  have B6 := X6
  have B7 := X7
  have B8 := X8
  have H3 := XR
  have HB := XB
  clear XR XB X3 X4 X5 X6 X7 X8
  generalize (((((w3.setCell ⟨g3, 0, none⟩ (.string ky)).setCell ⟨g3, 1, none⟩ (.string nm)).setCell ⟨g3, 2, none⟩ (.slice A1 ts.length c1)).setCell ⟨g3, 3, none⟩ (.int .i64 is')).setCell ⟨g3, 4, none⟩ (.slice A3 ys.length c3)) = w4 at *
  obtain ⟨b0, b1, b2, b3, b4⟩ := ce5 B3.out
  have k5 : w4.cell? ⟨g5, 0, none⟩ = some (.int .i64 token) := bc B5.out
  obtain ⟨d0, d1, d2, d3, d4⟩ := ce5 B6.out
  obtain ⟨j3, j4, j5, j6, j7⟩ := z5 B6.out
  have q0 := ce1 B7.out
  have j8 := z1 B7.out
  have u0 := ce1 B8.out
  have j9 := z1 B8.out
  have l8 := a6.out
  have m0 := a9.out
  have l9 := a7.out
  have m2 := b5.out
  have m1 := a8.out
  have m3 := b6.out
  go_wp2
  refine bodyPost_ret (results_css rfl _ _ g6 g7 g8 27 (#[(.string (⟨#[]⟩ : ByteArray)), (.string (⟨#[]⟩ : ByteArray)), (.slice none 0 0), (.int .i64 0), (.slice none 0 0)] : Array Value) (0, 0) _ (.int .i64 0) (.int .i64 1) rfl (pP B6.out) Try.underlying27 rfl (by kernel_rfl) rfl (load3 _ _ _ ((blk_cell (pP (cs' := #[.int .i64 0]) B7.out) 0).trans rfl)) rfl (load29 _ _ _ ((blk_cell (pP (cs' := #[.int .i64 1]) B8.out) 0).trans rfl))) rfl ?_
  exact ⟨.inr ⟨by decide, rfl⟩, pB HB.out⟩
 rw [if_neg m8] at b7
 have E2 : decide (token > 1099511627776) = false := decide_eq_false m8
 have v5 := am m8
 clear m8
 by_cases hn : noTok token ys = false
 ·
  rw [if_pos hn] at b7
  obtain rfl := Option.some.inj b7
  have HN := am hn
  clear hn b7
  go_enter Try.func23, Try.ntmps23
  go_upto_region 2 with (first | ((with_reducible refine gD 3 ?_); refine bz 3 (#[(.string ky), (.string nm), (.slice A1 ts.length c1), (.int .i64 is), (.slice A2 xs.length c2)] : Array Value) 27 HB ?_; clear HB; intro g3 hg l2 hb B3 k6 HB; clear hb hg) | ((with_reducible refine gD 4 ?_); refine bz 4 (#[(.int .i64 now)] : Array Value) 3 HB ?_; clear HB; intro g4 hg l3 hb B4 k7 HB; have c8 := nP hg B3; have i0 := am c8.out.symm; replace B3 := kP B3 hb; clear hb hg) | ((with_reducible refine gD 5 ?_); refine bz 5 (#[(.int .i64 token)] : Array Value) 3 HB ?_; clear HB; intro g5 hg l4 hb B5 k8 HB; have d5 := nP hg B3; have i1 := am d5.out.symm; have d6 := nP hg B4; have i2 := am d6.out.symm; replace B3 := kP B3 hb; replace B4 := kP B4 hb; clear hb hg) | ((with_reducible refine gD 6 ?_); refine bz 6 (#[(.string (⟨#[]⟩ : ByteArray)), (.string (⟨#[]⟩ : ByteArray)), (.slice none 0 0), (.int .i64 0), (.slice none 0 0)] : Array Value) 27 HB ?_; clear HB; intro g6 hg l5 hb B6 k9 HB; have b8 := nP hg B3; have g2 := am b8.out.symm; have d7 := nP hg B4; have i3 := am d7.out.symm; have e0 := nP hg B5; have i4 := am e0.out.symm; replace B3 := kP B3 hb; replace B4 := kP B4 hb; replace B5 := kP B5 hb; clear hb hg) | ((with_reducible refine gD 7 ?_); refine bz 7 (#[(.int .i64 0)] : Array Value) 3 HB ?_; clear HB; intro g7 hg l6 hb B7 l0 HB; have b9 := nP hg B3; have g9 := am b9.out.symm; have d8 := nP hg B4; have i5 := am d8.out.symm; have f5 := nP hg B5; have i6 := am f5.out.symm; have a6 := nP hg B6; have a9 := am a6.out.symm; replace B3 := kP B3 hb; replace B4 := kP B4 hb; replace B5 := kP B5 hb; replace B6 := kP B6 hb; clear hb hg) | ((with_reducible refine gD 8 ?_); refine bz 8 (#[(.int .i64 0)] : Array Value) 29 HB ?_; clear HB; intro g8 hg i9 hb B8 l1 HB; have c6 := nP hg B3; have h0 := am c6.out.symm; have d9 := nP hg B4; have i7 := am d9.out.symm; have f6 := nP hg B5; have i8 := am f6.out.symm; have a7 := nP hg B6; have b5 := am a7.out.symm; have a8 := nP hg B7; have b6 := am a8.out.symm; replace B3 := kP B3 hb; replace B4 := kP B4 hb; replace B5 := kP B5 hb; replace B6 := kP B6 hb; replace B7 := kP B7 hb; clear hb hg; obtain ⟨b0, b1, b2, b3, b4⟩ := ce5 B3.out; have k4 : i9.cell? ⟨g4, 0, none⟩ = some (.int .i64 now) := bc B4.out) | (go_at_call 14; refine (settle_calls k ky nm A1 c1 ts is A2 c2 xs now _ _ (Kd.C_below HT.out HB.out) n1.out (Kd.C_below HC.out HB.out) HO.out).mono ?_; rintro e w3 ⟨⟨v3, rfl, ho⟩, hb⟩; obtain ⟨A3, c3, e3⟩ := RowOf.slice ho; (try dsimp only at e3); subst e3; have H3 := am (RowOf.base ho (below_size HB.out)); replace B3 := kP B3 hb; replace B4 := kP B4 hb; replace B5 := kP B5 hb; replace B6 := kP B6 hb; replace B7 := kP B7 hb; replace B8 := kP B8 hb; replace HB := bS HB hb; clear b0 b1 b2 b3 b4 k4 hb; obtain ⟨b0, b1, b2, b3, b4⟩ := ce5 B3.out; obtain ⟨k0, k1, k2, k3, j2⟩ := z5 B3.out; clear ho))
  have X3 := am (show (((((w3.setCell ⟨g3, 0, none⟩ (.string ky)).setCell ⟨g3, 1, none⟩ (.string nm)).setCell ⟨g3, 2, none⟩ (.slice A1 ts.length c1)).setCell ⟨g3, 3, none⟩ (.int .i64 is')).setCell ⟨g3, 4, none⟩ (.slice A3 ys.length c3)).heap[g3]? = some (.cells (#[(.string ky), (.string nm), (.slice A1 ts.length c1), (.int .i64 is'), (.slice A3 ys.length c3)] : Array Value) 27 (0, 0)) from pP B3.out)
  have X4 := am (show (((((w3.setCell ⟨g3, 0, none⟩ (.string ky)).setCell ⟨g3, 1, none⟩ (.string nm)).setCell ⟨g3, 2, none⟩ (.slice A1 ts.length c1)).setCell ⟨g3, 3, none⟩ (.int .i64 is')).setCell ⟨g3, 4, none⟩ (.slice A3 ys.length c3)).heap[g4]? = some (.cells (#[(.int .i64 now)] : Array Value) 3 (0, 0)) from pP B4.out)
  have X5 := am (show (((((w3.setCell ⟨g3, 0, none⟩ (.string ky)).setCell ⟨g3, 1, none⟩ (.string nm)).setCell ⟨g3, 2, none⟩ (.slice A1 ts.length c1)).setCell ⟨g3, 3, none⟩ (.int .i64 is')).setCell ⟨g3, 4, none⟩ (.slice A3 ys.length c3)).heap[g5]? = some (.cells (#[(.int .i64 token)] : Array Value) 3 (0, 0)) from pP B5.out)
  have X6 := am (show (((((w3.setCell ⟨g3, 0, none⟩ (.string ky)).setCell ⟨g3, 1, none⟩ (.string nm)).setCell ⟨g3, 2, none⟩ (.slice A1 ts.length c1)).setCell ⟨g3, 3, none⟩ (.int .i64 is')).setCell ⟨g3, 4, none⟩ (.slice A3 ys.length c3)).heap[g6]? = some (.cells (#[(.string (⟨#[]⟩ : ByteArray)), (.string (⟨#[]⟩ : ByteArray)), (.slice none 0 0), (.int .i64 0), (.slice none 0 0)] : Array Value) 27 (0, 0)) from pP B6.out)
  have X7 := am (show (((((w3.setCell ⟨g3, 0, none⟩ (.string ky)).setCell ⟨g3, 1, none⟩ (.string nm)).setCell ⟨g3, 2, none⟩ (.slice A1 ts.length c1)).setCell ⟨g3, 3, none⟩ (.int .i64 is')).setCell ⟨g3, 4, none⟩ (.slice A3 ys.length c3)).heap[g7]? = some (.cells (#[(.int .i64 0)] : Array Value) 3 (0, 0)) from pP B7.out)
  have X8 := am (show (((((w3.setCell ⟨g3, 0, none⟩ (.string ky)).setCell ⟨g3, 1, none⟩ (.string nm)).setCell ⟨g3, 2, none⟩ (.slice A1 ts.length c1)).setCell ⟨g3, 3, none⟩ (.int .i64 is')).setCell ⟨g3, 4, none⟩ (.slice A3 ys.length c3)).heap[g8]? = some (.cells (#[(.int .i64 0)] : Array Value) 29 (0, 0)) from pP B8.out)
  have XR := am (show RowOf w (((((w3.setCell ⟨g3, 0, none⟩ (.string ky)).setCell ⟨g3, 1, none⟩ (.string nm)).setCell ⟨g3, 2, none⟩ (.slice A1 ts.length c1)).setCell ⟨g3, 3, none⟩ (.int .i64 is')).setCell ⟨g3, 4, none⟩ (.slice A3 ys.length c3)) A2 c2 xs (.slice A3 ys.length c3) ys from (RowOf.set (RowOf.set (RowOf.set (RowOf.set (RowOf.set H3.out (pP (cs' := #[(.string ky), (.string nm), (.slice A1 ts.length c1), (.int .i64 is), (.slice A2 xs.length c2)]) B3.out) (by decide) _ _) (pP (cs' := #[(.string ky), (.string nm), (.slice A1 ts.length c1), (.int .i64 is), (.slice A2 xs.length c2)]) B3.out) (by decide) _ _) (pP (cs' := #[(.string ky), (.string nm), (.slice A1 ts.length c1), (.int .i64 is), (.slice A2 xs.length c2)]) B3.out) (by decide) _ _) (pP (cs' := #[(.string ky), (.string nm), (.slice A1 ts.length c1), (.int .i64 is), (.slice A2 xs.length c2)]) B3.out) (by decide) _ _) (pP (cs' := #[(.string ky), (.string nm), (.slice A1 ts.length c1), (.int .i64 is'), (.slice A2 xs.length c2)]) B3.out) (by decide) _ _))
  have XB := am (show Below w.heap.size w (((((w3.setCell ⟨g3, 0, none⟩ (.string ky)).setCell ⟨g3, 1, none⟩ (.string nm)).setCell ⟨g3, 2, none⟩ (.slice A1 ts.length c1)).setCell ⟨g3, 3, none⟩ (.int .i64 is')).setCell ⟨g3, 4, none⟩ (.slice A3 ys.length c3)) from pB HB.out)
  clear H3 HB B3 B4 B5 B6 B7 B8 b0 b1 b2 b3 b4 k0 k1 k2 k3 j2
  have B3 := X3
  have B4 := X4
  have B5 := X5
  have B6 := X6
  have B7 := X7
  have B8 := X8
  have H3 := XR
  have HB := XB
  clear XR XB X3 X4 X5 X6 X7 X8
  generalize (((((w3.setCell ⟨g3, 0, none⟩ (.string ky)).setCell ⟨g3, 1, none⟩ (.string nm)).setCell ⟨g3, 2, none⟩ (.slice A1 ts.length c1)).setCell ⟨g3, 3, none⟩ (.int .i64 is')).setCell ⟨g3, 4, none⟩ (.slice A3 ys.length c3)) = w4 at *
  obtain ⟨b0, b1, b2, b3, b4⟩ := ce5 B3.out
  have k5 : w4.cell? ⟨g5, 0, none⟩ = some (.int .i64 token) := bc B5.out
  obtain ⟨d0, d1, d2, d3, d4⟩ := ce5 B6.out
  obtain ⟨j3, j4, j5, j6, j7⟩ := z5 B6.out
  have q0 := ce1 B7.out
  have j8 := z1 B7.out
  have u0 := ce1 B8.out
  have j9 := z1 B8.out
  have l8 := a6.out
  have m0 := a9.out
  have l9 := a7.out
  have m2 := b5.out
  have m1 := a8.out
  have m3 := b6.out
  go_wp2_with (go_at_call 61; refine (tok_calls g5 token A3 c3 ys _ (RowOf.reads H3.out HC.out HB.out) (by have h_ := n0.out; (try dsimp only at h_); omega) B5.out).mono ?_; rintro e w5 ⟨rfl, hb⟩; rw [HN.out]; replace B3 := kP B3 hb; replace B4 := kP B4 hb; replace B5 := kP B5 hb; replace B6 := kP B6 hb; replace B7 := kP B7 hb; replace B8 := kP B8 hb; replace HB := bS HB hb; clear b0 b1 b2 b3 b4 k5 d0 d1 d2 d3 d4 j3 j4 j5 j6 j7 q0 j8 u0 j9 H3 l8 m0 l9 m2 m1 m3 hb; obtain ⟨d0, d1, d2, d3, d4⟩ := ce5 B6.out; obtain ⟨j3, j4, j5, j6, j7⟩ := z5 B6.out; have q0 := ce1 B7.out; have j8 := z1 B7.out; have u0 := ce1 B8.out; have j9 := z1 B8.out; have l8 := a6.out; have m0 := a9.out; have l9 := a7.out; have m2 := b5.out; have m1 := a8.out; have m3 := b6.out)
  refine bodyPost_ret (results_css rfl _ _ g6 g7 g8 27 (#[(.string (⟨#[]⟩ : ByteArray)), (.string (⟨#[]⟩ : ByteArray)), (.slice none 0 0), (.int .i64 0), (.slice none 0 0)] : Array Value) (0, 0) _ (.int .i64 0) (.int .i64 1) rfl (pP B6.out) Try.underlying27 rfl (by kernel_rfl) rfl (load3 _ _ _ ((blk_cell (pP (cs' := #[.int .i64 0]) B7.out) 0).trans rfl)) rfl (load29 _ _ _ ((blk_cell (pP (cs' := #[.int .i64 1]) B8.out) 0).trans rfl))) rfl ?_
  exact ⟨.inr ⟨by decide, rfl⟩, pB HB.out⟩
 rw [if_neg hn] at b7
 have HN : Aside0 (noTok token ys = true) := ⟨by simpa using hn⟩
 clear hn
 by_cases hi : is' ≠ 0
 ·
  rw [if_pos hi] at b7
  obtain rfl := Option.some.inj b7
  have E3 := beq_eq_false_iff_ne.2 hi
  clear hi b7
  go_enter Try.func23, Try.ntmps23
  go_upto_region 2 with (first | ((with_reducible refine gD 3 ?_); refine bz 3 (#[(.string ky), (.string nm), (.slice A1 ts.length c1), (.int .i64 is), (.slice A2 xs.length c2)] : Array Value) 27 HB ?_; clear HB; intro g3 hg l2 hb B3 k6 HB; clear hb hg) | ((with_reducible refine gD 4 ?_); refine bz 4 (#[(.int .i64 now)] : Array Value) 3 HB ?_; clear HB; intro g4 hg l3 hb B4 k7 HB; have c8 := nP hg B3; have i0 := am c8.out.symm; replace B3 := kP B3 hb; clear hb hg) | ((with_reducible refine gD 5 ?_); refine bz 5 (#[(.int .i64 token)] : Array Value) 3 HB ?_; clear HB; intro g5 hg l4 hb B5 k8 HB; have d5 := nP hg B3; have i1 := am d5.out.symm; have d6 := nP hg B4; have i2 := am d6.out.symm; replace B3 := kP B3 hb; replace B4 := kP B4 hb; clear hb hg) | ((with_reducible refine gD 6 ?_); refine bz 6 (#[(.string (⟨#[]⟩ : ByteArray)), (.string (⟨#[]⟩ : ByteArray)), (.slice none 0 0), (.int .i64 0), (.slice none 0 0)] : Array Value) 27 HB ?_; clear HB; intro g6 hg l5 hb B6 k9 HB; have b8 := nP hg B3; have g2 := am b8.out.symm; have d7 := nP hg B4; have i3 := am d7.out.symm; have e0 := nP hg B5; have i4 := am e0.out.symm; replace B3 := kP B3 hb; replace B4 := kP B4 hb; replace B5 := kP B5 hb; clear hb hg) | ((with_reducible refine gD 7 ?_); refine bz 7 (#[(.int .i64 0)] : Array Value) 3 HB ?_; clear HB; intro g7 hg l6 hb B7 l0 HB; have b9 := nP hg B3; have g9 := am b9.out.symm; have d8 := nP hg B4; have i5 := am d8.out.symm; have f5 := nP hg B5; have i6 := am f5.out.symm; have a6 := nP hg B6; have a9 := am a6.out.symm; replace B3 := kP B3 hb; replace B4 := kP B4 hb; replace B5 := kP B5 hb; replace B6 := kP B6 hb; clear hb hg) | ((with_reducible refine gD 8 ?_); refine bz 8 (#[(.int .i64 0)] : Array Value) 29 HB ?_; clear HB; intro g8 hg i9 hb B8 l1 HB; have c6 := nP hg B3; have h0 := am c6.out.symm; have d9 := nP hg B4; have i7 := am d9.out.symm; have f6 := nP hg B5; have i8 := am f6.out.symm; have a7 := nP hg B6; have b5 := am a7.out.symm; have a8 := nP hg B7; have b6 := am a8.out.symm; replace B3 := kP B3 hb; replace B4 := kP B4 hb; replace B5 := kP B5 hb; replace B6 := kP B6 hb; replace B7 := kP B7 hb; clear hb hg; obtain ⟨b0, b1, b2, b3, b4⟩ := ce5 B3.out; have k4 : i9.cell? ⟨g4, 0, none⟩ = some (.int .i64 now) := bc B4.out) | (go_at_call 14; refine (settle_calls k ky nm A1 c1 ts is A2 c2 xs now _ _ (Kd.C_below HT.out HB.out) n1.out (Kd.C_below HC.out HB.out) HO.out).mono ?_; rintro e w3 ⟨⟨v3, rfl, ho⟩, hb⟩; obtain ⟨A3, c3, e3⟩ := RowOf.slice ho; (try dsimp only at e3); subst e3; have H3 := am (RowOf.base ho (below_size HB.out)); replace B3 := kP B3 hb; replace B4 := kP B4 hb; replace B5 := kP B5 hb; replace B6 := kP B6 hb; replace B7 := kP B7 hb; replace B8 := kP B8 hb; replace HB := bS HB hb; clear b0 b1 b2 b3 b4 k4 hb; obtain ⟨b0, b1, b2, b3, b4⟩ := ce5 B3.out; obtain ⟨k0, k1, k2, k3, j2⟩ := z5 B3.out; clear ho))
  have X3 := am (show (((((w3.setCell ⟨g3, 0, none⟩ (.string ky)).setCell ⟨g3, 1, none⟩ (.string nm)).setCell ⟨g3, 2, none⟩ (.slice A1 ts.length c1)).setCell ⟨g3, 3, none⟩ (.int .i64 is')).setCell ⟨g3, 4, none⟩ (.slice A3 ys.length c3)).heap[g3]? = some (.cells (#[(.string ky), (.string nm), (.slice A1 ts.length c1), (.int .i64 is'), (.slice A3 ys.length c3)] : Array Value) 27 (0, 0)) from pP B3.out)
  have X4 := am (show (((((w3.setCell ⟨g3, 0, none⟩ (.string ky)).setCell ⟨g3, 1, none⟩ (.string nm)).setCell ⟨g3, 2, none⟩ (.slice A1 ts.length c1)).setCell ⟨g3, 3, none⟩ (.int .i64 is')).setCell ⟨g3, 4, none⟩ (.slice A3 ys.length c3)).heap[g4]? = some (.cells (#[(.int .i64 now)] : Array Value) 3 (0, 0)) from pP B4.out)
  have X5 := am (show (((((w3.setCell ⟨g3, 0, none⟩ (.string ky)).setCell ⟨g3, 1, none⟩ (.string nm)).setCell ⟨g3, 2, none⟩ (.slice A1 ts.length c1)).setCell ⟨g3, 3, none⟩ (.int .i64 is')).setCell ⟨g3, 4, none⟩ (.slice A3 ys.length c3)).heap[g5]? = some (.cells (#[(.int .i64 token)] : Array Value) 3 (0, 0)) from pP B5.out)
  have X6 := am (show (((((w3.setCell ⟨g3, 0, none⟩ (.string ky)).setCell ⟨g3, 1, none⟩ (.string nm)).setCell ⟨g3, 2, none⟩ (.slice A1 ts.length c1)).setCell ⟨g3, 3, none⟩ (.int .i64 is')).setCell ⟨g3, 4, none⟩ (.slice A3 ys.length c3)).heap[g6]? = some (.cells (#[(.string (⟨#[]⟩ : ByteArray)), (.string (⟨#[]⟩ : ByteArray)), (.slice none 0 0), (.int .i64 0), (.slice none 0 0)] : Array Value) 27 (0, 0)) from pP B6.out)
  have X7 := am (show (((((w3.setCell ⟨g3, 0, none⟩ (.string ky)).setCell ⟨g3, 1, none⟩ (.string nm)).setCell ⟨g3, 2, none⟩ (.slice A1 ts.length c1)).setCell ⟨g3, 3, none⟩ (.int .i64 is')).setCell ⟨g3, 4, none⟩ (.slice A3 ys.length c3)).heap[g7]? = some (.cells (#[(.int .i64 0)] : Array Value) 3 (0, 0)) from pP B7.out)
  have X8 := am (show (((((w3.setCell ⟨g3, 0, none⟩ (.string ky)).setCell ⟨g3, 1, none⟩ (.string nm)).setCell ⟨g3, 2, none⟩ (.slice A1 ts.length c1)).setCell ⟨g3, 3, none⟩ (.int .i64 is')).setCell ⟨g3, 4, none⟩ (.slice A3 ys.length c3)).heap[g8]? = some (.cells (#[(.int .i64 0)] : Array Value) 29 (0, 0)) from pP B8.out)
  have XR := am (show RowOf w (((((w3.setCell ⟨g3, 0, none⟩ (.string ky)).setCell ⟨g3, 1, none⟩ (.string nm)).setCell ⟨g3, 2, none⟩ (.slice A1 ts.length c1)).setCell ⟨g3, 3, none⟩ (.int .i64 is')).setCell ⟨g3, 4, none⟩ (.slice A3 ys.length c3)) A2 c2 xs (.slice A3 ys.length c3) ys from (RowOf.set (RowOf.set (RowOf.set (RowOf.set (RowOf.set H3.out (pP (cs' := #[(.string ky), (.string nm), (.slice A1 ts.length c1), (.int .i64 is), (.slice A2 xs.length c2)]) B3.out) (by decide) _ _) (pP (cs' := #[(.string ky), (.string nm), (.slice A1 ts.length c1), (.int .i64 is), (.slice A2 xs.length c2)]) B3.out) (by decide) _ _) (pP (cs' := #[(.string ky), (.string nm), (.slice A1 ts.length c1), (.int .i64 is), (.slice A2 xs.length c2)]) B3.out) (by decide) _ _) (pP (cs' := #[(.string ky), (.string nm), (.slice A1 ts.length c1), (.int .i64 is), (.slice A2 xs.length c2)]) B3.out) (by decide) _ _) (pP (cs' := #[(.string ky), (.string nm), (.slice A1 ts.length c1), (.int .i64 is'), (.slice A2 xs.length c2)]) B3.out) (by decide) _ _))
  have XB := am (show Below w.heap.size w (((((w3.setCell ⟨g3, 0, none⟩ (.string ky)).setCell ⟨g3, 1, none⟩ (.string nm)).setCell ⟨g3, 2, none⟩ (.slice A1 ts.length c1)).setCell ⟨g3, 3, none⟩ (.int .i64 is')).setCell ⟨g3, 4, none⟩ (.slice A3 ys.length c3)) from pB HB.out)
  clear H3 HB B3 B4 B5 B6 B7 B8 b0 b1 b2 b3 b4 k0 k1 k2 k3 j2
  have B3 := X3
  have B4 := X4
  have B5 := X5
  have B6 := X6
  have B7 := X7
  have B8 := X8
  have H3 := XR
  have HB := XB
  clear XR XB X3 X4 X5 X6 X7 X8
  generalize (((((w3.setCell ⟨g3, 0, none⟩ (.string ky)).setCell ⟨g3, 1, none⟩ (.string nm)).setCell ⟨g3, 2, none⟩ (.slice A1 ts.length c1)).setCell ⟨g3, 3, none⟩ (.int .i64 is')).setCell ⟨g3, 4, none⟩ (.slice A3 ys.length c3)) = w4 at *
  obtain ⟨b0, b1, b2, b3, b4⟩ := ce5 B3.out
  have k5 : w4.cell? ⟨g5, 0, none⟩ = some (.int .i64 token) := bc B5.out
  obtain ⟨d0, d1, d2, d3, d4⟩ := ce5 B6.out
  obtain ⟨j3, j4, j5, j6, j7⟩ := z5 B6.out
  have q0 := ce1 B7.out
  have j8 := z1 B7.out
  have u0 := ce1 B8.out
  have j9 := z1 B8.out
  have l8 := a6.out
  have m0 := a9.out
  have l9 := a7.out
  have m2 := b5.out
  have m1 := a8.out
  have m3 := b6.out
  go_wp2_with (go_at_call 61; refine (tok_calls g5 token A3 c3 ys _ (RowOf.reads H3.out HC.out HB.out) (by have h_ := n0.out; (try dsimp only at h_); omega) B5.out).mono ?_; rintro e w5 ⟨rfl, hb⟩; rw [HN.out]; replace B3 := kP B3 hb; replace B4 := kP B4 hb; replace B5 := kP B5 hb; replace B6 := kP B6 hb; replace B7 := kP B7 hb; replace B8 := kP B8 hb; replace HB := bS HB hb; clear b0 b1 b2 b3 b4 k5 d0 d1 d2 d3 d4 j3 j4 j5 j6 j7 q0 j8 u0 j9 H3 l8 m0 l9 m2 m1 m3 hb; obtain ⟨d0, d1, d2, d3, d4⟩ := ce5 B6.out; obtain ⟨j3, j4, j5, j6, j7⟩ := z5 B6.out; have q0 := ce1 B7.out; have j8 := z1 B7.out; have u0 := ce1 B8.out; have j9 := z1 B8.out; have l8 := a6.out; have m0 := a9.out; have l9 := a7.out; have m2 := b5.out; have m1 := a8.out; have m3 := b6.out; obtain ⟨b0, b1, b2, b3, b4⟩ := ce5 B3.out)
  refine bodyPost_ret (results_css rfl _ _ g6 g7 g8 27 (#[(.string (⟨#[]⟩ : ByteArray)), (.string (⟨#[]⟩ : ByteArray)), (.slice none 0 0), (.int .i64 0), (.slice none 0 0)] : Array Value) (0, 0) _ (.int .i64 0) (.int .i64 192) rfl (pP B6.out) Try.underlying27 rfl (by kernel_rfl) rfl (load3 _ _ _ ((blk_cell (pP (cs' := #[.int .i64 0]) B7.out) 0).trans rfl)) rfl (load29 _ _ _ ((blk_cell (pP (cs' := #[.int .i64 192]) B8.out) 0).trans rfl))) rfl ?_
  exact ⟨.inr ⟨by decide, rfl⟩, pB HB.out⟩
 rw [if_neg hi] at b7
 obtain rfl : is' = 0 := by simpa using hi
 clear hi
 by_cases hg : goodLease k ts ys now token = false
 ·
  rw [if_pos hg] at b7; cases b7
 rw [if_neg hg] at b7
 have HG : Aside0 (goodLease k ts ys now token = true) := ⟨by simpa using hg⟩
 have p4 := am b7
 clear hg b7
 refine (callsIn_wide (n := 6)).1 ?_
 refine callsIn_of_wp_marks Try.func23 rfl trivial ?_ rfl
 simp only [Try.ntmps23, List.size_toArray, List.length_cons, List.length_nil, Nat.reduceAdd, Nat.reduceSub, Array.replicate_succ, Array.replicate_zero, List.push_toArray, List.append_toArray, List.nil_append, List.cons_append]
 have B3 := am (show ((w).alloc (.cells #[(.string ky), (.string nm), (.slice A1 ts.length c1), (.int .i64 is), (.slice A2 xs.length c2)] 27)).heap[w.heap.size]? = some (.cells (#[(.string ky), (.string nm), (.slice A1 ts.length c1), (.int .i64 is), (.slice A2 xs.length c2)] : Array Value) 27 (0, 0)) from (by have h_ := blk_new w (.cells #[(.string ky), (.string nm), (.slice A1 ts.length c1), (.int .i64 is), (.slice A2 xs.length c2)] 27); exact h_))
 have X3 := am (blk_alloc B3.out (.cells #[(.int .i64 now)] 3))
 clear B3
 have B3 := X3
 clear X3
 have B4 := am (show (((w).alloc (.cells #[(.string ky), (.string nm), (.slice A1 ts.length c1), (.int .i64 is), (.slice A2 xs.length c2)] 27)).alloc (.cells #[(.int .i64 now)] 3)).heap[w.heap.size + 1]? = some (.cells (#[(.int .i64 now)] : Array Value) 3 (0, 0)) from (by have h_ := blk_new ((w).alloc (.cells #[(.string ky), (.string nm), (.slice A1 ts.length c1), (.int .i64 is), (.slice A2 xs.length c2)] 27)) (.cells #[(.int .i64 now)] 3); rwa [World.size_alloc] at h_))
 have X3 := am (blk_alloc B3.out (.cells #[(.int .i64 token)] 3))
 have X4 := am (blk_alloc B4.out (.cells #[(.int .i64 token)] 3))
 clear B3 B4
 have B3 := X3
 have B4 := X4
 clear X3 X4
 have B5 := am (show ((((w).alloc (.cells #[(.string ky), (.string nm), (.slice A1 ts.length c1), (.int .i64 is), (.slice A2 xs.length c2)] 27)).alloc (.cells #[(.int .i64 now)] 3)).alloc (.cells #[(.int .i64 token)] 3)).heap[w.heap.size + 1 + 1]? = some (.cells (#[(.int .i64 token)] : Array Value) 3 (0, 0)) from (by have h_ := blk_new (((w).alloc (.cells #[(.string ky), (.string nm), (.slice A1 ts.length c1), (.int .i64 is), (.slice A2 xs.length c2)] 27)).alloc (.cells #[(.int .i64 now)] 3)) (.cells #[(.int .i64 token)] 3); rwa [World.size_alloc, World.size_alloc] at h_))
 have X3 := am (blk_alloc B3.out (.cells #[(.string (⟨#[]⟩ : ByteArray)), (.string (⟨#[]⟩ : ByteArray)), (.slice none 0 0), (.int .i64 0), (.slice none 0 0)] 27))
 have X4 := am (blk_alloc B4.out (.cells #[(.string (⟨#[]⟩ : ByteArray)), (.string (⟨#[]⟩ : ByteArray)), (.slice none 0 0), (.int .i64 0), (.slice none 0 0)] 27))
 have X5 := am (blk_alloc B5.out (.cells #[(.string (⟨#[]⟩ : ByteArray)), (.string (⟨#[]⟩ : ByteArray)), (.slice none 0 0), (.int .i64 0), (.slice none 0 0)] 27))
 clear B3 B4 B5
 have B3 := X3
 have B4 := X4
 have B5 := X5
 clear X3 X4 X5
 have B6 := am (show (((((w).alloc (.cells #[(.string ky), (.string nm), (.slice A1 ts.length c1), (.int .i64 is), (.slice A2 xs.length c2)] 27)).alloc (.cells #[(.int .i64 now)] 3)).alloc (.cells #[(.int .i64 token)] 3)).alloc (.cells #[(.string (⟨#[]⟩ : ByteArray)), (.string (⟨#[]⟩ : ByteArray)), (.slice none 0 0), (.int .i64 0), (.slice none 0 0)] 27)).heap[w.heap.size + 1 + 1 + 1]? = some (.cells (#[(.string (⟨#[]⟩ : ByteArray)), (.string (⟨#[]⟩ : ByteArray)), (.slice none 0 0), (.int .i64 0), (.slice none 0 0)] : Array Value) 27 (0, 0)) from (by have h_ := blk_new ((((w).alloc (.cells #[(.string ky), (.string nm), (.slice A1 ts.length c1), (.int .i64 is), (.slice A2 xs.length c2)] 27)).alloc (.cells #[(.int .i64 now)] 3)).alloc (.cells #[(.int .i64 token)] 3)) (.cells #[(.string (⟨#[]⟩ : ByteArray)), (.string (⟨#[]⟩ : ByteArray)), (.slice none 0 0), (.int .i64 0), (.slice none 0 0)] 27); rwa [World.size_alloc, World.size_alloc, World.size_alloc] at h_))
 have X3 := am (blk_alloc B3.out (.cells #[(.int .i64 0)] 3))
 have X4 := am (blk_alloc B4.out (.cells #[(.int .i64 0)] 3))
 have X5 := am (blk_alloc B5.out (.cells #[(.int .i64 0)] 3))
 have X6 := am (blk_alloc B6.out (.cells #[(.int .i64 0)] 3))
 clear B3 B4 B5 B6
 have B3 := X3
 have B4 := X4
 have B5 := X5
 have B6 := X6
 clear X3 X4 X5 X6
 have B7 := am (show ((((((w).alloc (.cells #[(.string ky), (.string nm), (.slice A1 ts.length c1), (.int .i64 is), (.slice A2 xs.length c2)] 27)).alloc (.cells #[(.int .i64 now)] 3)).alloc (.cells #[(.int .i64 token)] 3)).alloc (.cells #[(.string (⟨#[]⟩ : ByteArray)), (.string (⟨#[]⟩ : ByteArray)), (.slice none 0 0), (.int .i64 0), (.slice none 0 0)] 27)).alloc (.cells #[(.int .i64 0)] 3)).heap[w.heap.size + 1 + 1 + 1 + 1]? = some (.cells (#[(.int .i64 0)] : Array Value) 3 (0, 0)) from (by have h_ := blk_new (((((w).alloc (.cells #[(.string ky), (.string nm), (.slice A1 ts.length c1), (.int .i64 is), (.slice A2 xs.length c2)] 27)).alloc (.cells #[(.int .i64 now)] 3)).alloc (.cells #[(.int .i64 token)] 3)).alloc (.cells #[(.string (⟨#[]⟩ : ByteArray)), (.string (⟨#[]⟩ : ByteArray)), (.slice none 0 0), (.int .i64 0), (.slice none 0 0)] 27)) (.cells #[(.int .i64 0)] 3); rwa [World.size_alloc, World.size_alloc, World.size_alloc, World.size_alloc] at h_))
 have X3 := am (blk_alloc B3.out (.cells #[(.int .i64 0)] 29))
 have X4 := am (blk_alloc B4.out (.cells #[(.int .i64 0)] 29))
 have X5 := am (blk_alloc B5.out (.cells #[(.int .i64 0)] 29))
 have X6 := am (blk_alloc B6.out (.cells #[(.int .i64 0)] 29))
 have X7 := am (blk_alloc B7.out (.cells #[(.int .i64 0)] 29))
 clear B3 B4 B5 B6 B7
 have B3 := X3
 have B4 := X4
 have B5 := X5
 have B6 := X6
 have B7 := X7
 clear X3 X4 X5 X6 X7
 have B8 := am (show (((((((w).alloc (.cells #[(.string ky), (.string nm), (.slice A1 ts.length c1), (.int .i64 is), (.slice A2 xs.length c2)] 27)).alloc (.cells #[(.int .i64 now)] 3)).alloc (.cells #[(.int .i64 token)] 3)).alloc (.cells #[(.string (⟨#[]⟩ : ByteArray)), (.string (⟨#[]⟩ : ByteArray)), (.slice none 0 0), (.int .i64 0), (.slice none 0 0)] 27)).alloc (.cells #[(.int .i64 0)] 3)).alloc (.cells #[(.int .i64 0)] 29)).heap[w.heap.size + 1 + 1 + 1 + 1 + 1]? = some (.cells (#[(.int .i64 0)] : Array Value) 29 (0, 0)) from (by have h_ := blk_new ((((((w).alloc (.cells #[(.string ky), (.string nm), (.slice A1 ts.length c1), (.int .i64 is), (.slice A2 xs.length c2)] 27)).alloc (.cells #[(.int .i64 now)] 3)).alloc (.cells #[(.int .i64 token)] 3)).alloc (.cells #[(.string (⟨#[]⟩ : ByteArray)), (.string (⟨#[]⟩ : ByteArray)), (.slice none 0 0), (.int .i64 0), (.slice none 0 0)] 27)).alloc (.cells #[(.int .i64 0)] 3)) (.cells #[(.int .i64 0)] 29); rwa [World.size_alloc, World.size_alloc, World.size_alloc, World.size_alloc, World.size_alloc] at h_))
 have XB := am (show Below w.heap.size w (((((((w).alloc (.cells #[(.string ky), (.string nm), (.slice A1 ts.length c1), (.int .i64 is), (.slice A2 xs.length c2)] 27)).alloc (.cells #[(.int .i64 now)] 3)).alloc (.cells #[(.int .i64 token)] 3)).alloc (.cells #[(.string (⟨#[]⟩ : ByteArray)), (.string (⟨#[]⟩ : ByteArray)), (.slice none 0 0), (.int .i64 0), (.slice none 0 0)] 27)).alloc (.cells #[(.int .i64 0)] 3)).alloc (.cells #[(.int .i64 0)] 29)) from (below_alloc (below_alloc (below_alloc (below_alloc (below_alloc (below_alloc (Below.refl _ w) _) _) _) _) _) _))
 clear HB
 have HB := XB
 clear XB
 gi_wp2_with (first | (refine ⟨trivial, ?_⟩; gi_at_call 14; refine (callsIn_wide.2 (settle_calls k ky nm A1 c1 ts is A2 c2 xs now _ _ (Kd.C_below HT.out HB.out) n1.out (Kd.C_below HC.out HB.out) HO.out)).mono ?_; rintro e w3 ⟨⟨v3, rfl, ho⟩, hb⟩; obtain ⟨A3, c3, e3⟩ := RowOf.slice ho; (try dsimp only at e3); subst e3; have H3 := am (RowOf.base ho (below_size HB.out)); have X3 := am (blk_below B3.out hb); have X4 := am (blk_below B4.out hb); have X5 := am (blk_below B5.out hb); have X6 := am (blk_below B6.out hb); have X7 := am (blk_below B7.out hb); have X8 := am (blk_below B8.out hb); have XB := am (below_step HB.out hb); have s4 := am (show w.heap.size + 6 ≤ w3.heap.size by have := hb.size; simp at this; omega); clear HB B3 B4 B5 B6 B7 B8; have B3 := X3; have B4 := X4; have B5 := X5; have B6 := X6; have B7 := X7; have B8 := X8; have HB := XB; clear XB hb ho X3 X4 X5 X6 X7 X8; obtain ⟨b0, b1, b2, b3, b4⟩ := ce5 B3.out; obtain ⟨k0, k1, k2, k3, j2⟩ := z5 B3.out; have k5 : w3.cell? ⟨w.heap.size + 1 + 1, 0, none⟩ = some (.int .i64 token) := bc B5.out) | (refine ⟨trivial, ?_⟩; gi_at_call 61; have X3 := am (show (((((w3.setCell ⟨w.heap.size, 0, none⟩ (.string ky)).setCell ⟨w.heap.size, 1, none⟩ (.string nm)).setCell ⟨w.heap.size, 2, none⟩ (.slice A1 ts.length c1)).setCell ⟨w.heap.size, 3, none⟩ (.int .i64 0)).setCell ⟨w.heap.size, 4, none⟩ (.slice A3 ys.length c3)).heap[w.heap.size]? = some (.cells (#[(.string ky), (.string nm), (.slice A1 ts.length c1), (.int .i64 0), (.slice A3 ys.length c3)] : Array Value) 27 (0, 0)) from (blk_put (cs := #[(.string ky), (.string nm), (.slice A1 ts.length c1), (.int .i64 0), (.slice A2 xs.length c2)]) (cs' := #[(.string ky), (.string nm), (.slice A1 ts.length c1), (.int .i64 0), (.slice A3 ys.length c3)]) (blk_put (cs := #[(.string ky), (.string nm), (.slice A1 ts.length c1), (.int .i64 is), (.slice A2 xs.length c2)]) (cs' := #[(.string ky), (.string nm), (.slice A1 ts.length c1), (.int .i64 0), (.slice A2 xs.length c2)]) (blk_put (cs := #[(.string ky), (.string nm), (.slice A1 ts.length c1), (.int .i64 is), (.slice A2 xs.length c2)]) (cs' := #[(.string ky), (.string nm), (.slice A1 ts.length c1), (.int .i64 is), (.slice A2 xs.length c2)]) (blk_put (cs := #[(.string ky), (.string nm), (.slice A1 ts.length c1), (.int .i64 is), (.slice A2 xs.length c2)]) (cs' := #[(.string ky), (.string nm), (.slice A1 ts.length c1), (.int .i64 is), (.slice A2 xs.length c2)]) (blk_put (cs := #[(.string ky), (.string nm), (.slice A1 ts.length c1), (.int .i64 is), (.slice A2 xs.length c2)]) (cs' := #[(.string ky), (.string nm), (.slice A1 ts.length c1), (.int .i64 is), (.slice A2 xs.length c2)]) B3.out 0 _ rfl) 1 _ rfl) 2 _ rfl) 3 _ rfl) 4 _ rfl)); have X4 := am (show (((((w3.setCell ⟨w.heap.size, 0, none⟩ (.string ky)).setCell ⟨w.heap.size, 1, none⟩ (.string nm)).setCell ⟨w.heap.size, 2, none⟩ (.slice A1 ts.length c1)).setCell ⟨w.heap.size, 3, none⟩ (.int .i64 0)).setCell ⟨w.heap.size, 4, none⟩ (.slice A3 ys.length c3)).heap[w.heap.size + 1]? = some (.cells (#[(.int .i64 now)] : Array Value) 3 (0, 0)) from (blk_far (blk_far (blk_far (blk_far (blk_far B4.out (by show w.heap.size + 1 ≠ w.heap.size; omega) _) (by show w.heap.size + 1 ≠ w.heap.size; omega) _) (by show w.heap.size + 1 ≠ w.heap.size; omega) _) (by show w.heap.size + 1 ≠ w.heap.size; omega) _) (by show w.heap.size + 1 ≠ w.heap.size; omega) _)); have X5 := am (show (((((w3.setCell ⟨w.heap.size, 0, none⟩ (.string ky)).setCell ⟨w.heap.size, 1, none⟩ (.string nm)).setCell ⟨w.heap.size, 2, none⟩ (.slice A1 ts.length c1)).setCell ⟨w.heap.size, 3, none⟩ (.int .i64 0)).setCell ⟨w.heap.size, 4, none⟩ (.slice A3 ys.length c3)).heap[w.heap.size + 1 + 1]? = some (.cells (#[(.int .i64 token)] : Array Value) 3 (0, 0)) from (blk_far (blk_far (blk_far (blk_far (blk_far B5.out (by show w.heap.size + 1 + 1 ≠ w.heap.size; omega) _) (by show w.heap.size + 1 + 1 ≠ w.heap.size; omega) _) (by show w.heap.size + 1 + 1 ≠ w.heap.size; omega) _) (by show w.heap.size + 1 + 1 ≠ w.heap.size; omega) _) (by show w.heap.size + 1 + 1 ≠ w.heap.size; omega) _)); have X6 := am (show (((((w3.setCell ⟨w.heap.size, 0, none⟩ (.string ky)).setCell ⟨w.heap.size, 1, none⟩ (.string nm)).setCell ⟨w.heap.size, 2, none⟩ (.slice A1 ts.length c1)).setCell ⟨w.heap.size, 3, none⟩ (.int .i64 0)).setCell ⟨w.heap.size, 4, none⟩ (.slice A3 ys.length c3)).heap[w.heap.size + 1 + 1 + 1]? = some (.cells (#[(.string (⟨#[]⟩ : ByteArray)), (.string (⟨#[]⟩ : ByteArray)), (.slice none 0 0), (.int .i64 0), (.slice none 0 0)] : Array Value) 27 (0, 0)) from (blk_far (blk_far (blk_far (blk_far (blk_far B6.out (by show w.heap.size + 1 + 1 + 1 ≠ w.heap.size; omega) _) (by show w.heap.size + 1 + 1 + 1 ≠ w.heap.size; omega) _) (by show w.heap.size + 1 + 1 + 1 ≠ w.heap.size; omega) _) (by show w.heap.size + 1 + 1 + 1 ≠ w.heap.size; omega) _) (by show w.heap.size + 1 + 1 + 1 ≠ w.heap.size; omega) _)); have X7 := am (show (((((w3.setCell ⟨w.heap.size, 0, none⟩ (.string ky)).setCell ⟨w.heap.size, 1, none⟩ (.string nm)).setCell ⟨w.heap.size, 2, none⟩ (.slice A1 ts.length c1)).setCell ⟨w.heap.size, 3, none⟩ (.int .i64 0)).setCell ⟨w.heap.size, 4, none⟩ (.slice A3 ys.length c3)).heap[w.heap.size + 1 + 1 + 1 + 1]? = some (.cells (#[(.int .i64 0)] : Array Value) 3 (0, 0)) from (blk_far (blk_far (blk_far (blk_far (blk_far B7.out (by show w.heap.size + 1 + 1 + 1 + 1 ≠ w.heap.size; omega) _) (by show w.heap.size + 1 + 1 + 1 + 1 ≠ w.heap.size; omega) _) (by show w.heap.size + 1 + 1 + 1 + 1 ≠ w.heap.size; omega) _) (by show w.heap.size + 1 + 1 + 1 + 1 ≠ w.heap.size; omega) _) (by show w.heap.size + 1 + 1 + 1 + 1 ≠ w.heap.size; omega) _)); have X8 := am (show (((((w3.setCell ⟨w.heap.size, 0, none⟩ (.string ky)).setCell ⟨w.heap.size, 1, none⟩ (.string nm)).setCell ⟨w.heap.size, 2, none⟩ (.slice A1 ts.length c1)).setCell ⟨w.heap.size, 3, none⟩ (.int .i64 0)).setCell ⟨w.heap.size, 4, none⟩ (.slice A3 ys.length c3)).heap[w.heap.size + 1 + 1 + 1 + 1 + 1]? = some (.cells (#[(.int .i64 0)] : Array Value) 29 (0, 0)) from (blk_far (blk_far (blk_far (blk_far (blk_far B8.out (by show w.heap.size + 1 + 1 + 1 + 1 + 1 ≠ w.heap.size; omega) _) (by show w.heap.size + 1 + 1 + 1 + 1 + 1 ≠ w.heap.size; omega) _) (by show w.heap.size + 1 + 1 + 1 + 1 + 1 ≠ w.heap.size; omega) _) (by show w.heap.size + 1 + 1 + 1 + 1 + 1 ≠ w.heap.size; omega) _) (by show w.heap.size + 1 + 1 + 1 + 1 + 1 ≠ w.heap.size; omega) _)); have XR := am (show RowOf w (((((w3.setCell ⟨w.heap.size, 0, none⟩ (.string ky)).setCell ⟨w.heap.size, 1, none⟩ (.string nm)).setCell ⟨w.heap.size, 2, none⟩ (.slice A1 ts.length c1)).setCell ⟨w.heap.size, 3, none⟩ (.int .i64 0)).setCell ⟨w.heap.size, 4, none⟩ (.slice A3 ys.length c3)) A2 c2 xs (.slice A3 ys.length c3) ys from (RowOf.set (RowOf.set (RowOf.set (RowOf.set (RowOf.set H3.out B3.out (by decide) _ _) (blk_put (cs := #[(.string ky), (.string nm), (.slice A1 ts.length c1), (.int .i64 is), (.slice A2 xs.length c2)]) (cs' := #[(.string ky), (.string nm), (.slice A1 ts.length c1), (.int .i64 is), (.slice A2 xs.length c2)]) B3.out 0 _ rfl) (by decide) _ _) (blk_put (cs := #[(.string ky), (.string nm), (.slice A1 ts.length c1), (.int .i64 is), (.slice A2 xs.length c2)]) (cs' := #[(.string ky), (.string nm), (.slice A1 ts.length c1), (.int .i64 is), (.slice A2 xs.length c2)]) (blk_put (cs := #[(.string ky), (.string nm), (.slice A1 ts.length c1), (.int .i64 is), (.slice A2 xs.length c2)]) (cs' := #[(.string ky), (.string nm), (.slice A1 ts.length c1), (.int .i64 is), (.slice A2 xs.length c2)]) B3.out 0 _ rfl) 1 _ rfl) (by decide) _ _) (blk_put (cs := #[(.string ky), (.string nm), (.slice A1 ts.length c1), (.int .i64 is), (.slice A2 xs.length c2)]) (cs' := #[(.string ky), (.string nm), (.slice A1 ts.length c1), (.int .i64 is), (.slice A2 xs.length c2)]) (blk_put (cs := #[(.string ky), (.string nm), (.slice A1 ts.length c1), (.int .i64 is), (.slice A2 xs.length c2)]) (cs' := #[(.string ky), (.string nm), (.slice A1 ts.length c1), (.int .i64 is), (.slice A2 xs.length c2)]) (blk_put (cs := #[(.string ky), (.string nm), (.slice A1 ts.length c1), (.int .i64 is), (.slice A2 xs.length c2)]) (cs' := #[(.string ky), (.string nm), (.slice A1 ts.length c1), (.int .i64 is), (.slice A2 xs.length c2)]) B3.out 0 _ rfl) 1 _ rfl) 2 _ rfl) (by decide) _ _) (blk_put (cs := #[(.string ky), (.string nm), (.slice A1 ts.length c1), (.int .i64 is), (.slice A2 xs.length c2)]) (cs' := #[(.string ky), (.string nm), (.slice A1 ts.length c1), (.int .i64 0), (.slice A2 xs.length c2)]) (blk_put (cs := #[(.string ky), (.string nm), (.slice A1 ts.length c1), (.int .i64 is), (.slice A2 xs.length c2)]) (cs' := #[(.string ky), (.string nm), (.slice A1 ts.length c1), (.int .i64 is), (.slice A2 xs.length c2)]) (blk_put (cs := #[(.string ky), (.string nm), (.slice A1 ts.length c1), (.int .i64 is), (.slice A2 xs.length c2)]) (cs' := #[(.string ky), (.string nm), (.slice A1 ts.length c1), (.int .i64 is), (.slice A2 xs.length c2)]) (blk_put (cs := #[(.string ky), (.string nm), (.slice A1 ts.length c1), (.int .i64 is), (.slice A2 xs.length c2)]) (cs' := #[(.string ky), (.string nm), (.slice A1 ts.length c1), (.int .i64 is), (.slice A2 xs.length c2)]) B3.out 0 _ rfl) 1 _ rfl) 2 _ rfl) 3 _ rfl) (by decide) _ _)); have XB := am (show Below w.heap.size w (((((w3.setCell ⟨w.heap.size, 0, none⟩ (.string ky)).setCell ⟨w.heap.size, 1, none⟩ (.string nm)).setCell ⟨w.heap.size, 2, none⟩ (.slice A1 ts.length c1)).setCell ⟨w.heap.size, 3, none⟩ (.int .i64 0)).setCell ⟨w.heap.size, 4, none⟩ (.slice A3 ys.length c3)) from (below_set (below_set (below_set (below_set (below_set HB.out (Nat.le_refl _)) (Nat.le_refl _)) (Nat.le_refl _)) (Nat.le_refl _)) (Nat.le_refl _))); refine (callsIn_wide.2 (tok_calls (w.heap.size + 1 + 1) token A3 c3 ys _ (RowOf.reads XR.out HC.out XB.out) (by have h_ := n0.out; (try dsimp only at h_); omega) X5.out)).mono ?_; rintro e w4 ⟨rfl, hb⟩; rw [HN.out]; have Y3 := am (blk_below X3.out hb); have Y4 := am (blk_below X4.out hb); have Y5 := am (blk_below X5.out hb); have Y6 := am (blk_below X6.out hb); have Y7 := am (blk_below X7.out hb); have Y8 := am (blk_below X8.out hb); have YR := am (RowOf.below XR.out hb); have YB := am (below_step XB.out hb); have s5 := am (show w.heap.size + 6 ≤ w4.heap.size by have f9 := hb.size; have b7 := s4.out; simp at f9; omega); clear HB H3 XR XB hb k5 B3 X3 B4 X4 B5 X5 B6 X6 B7 X7 B8 X8 b0 b1 b2 b3 b4 k0 k1 k2 k3 j2; have B3 := Y3; have B4 := Y4; have B5 := Y5; have B6 := Y6; have B7 := Y7; have B8 := Y8; have H3 := YR; have HB := YB; clear YR YB Y3 Y4 Y5 Y6 Y7 Y8; obtain ⟨b0, b1, b2, b3, b4⟩ := ce5 B3.out) | (refine ⟨trivial, ?_⟩; gi_at_call 43; refine (callsIn_wide.2 (each_calls ky nm A1 ts.length c1 0 A3 ys.length c3 _)).mono ?_; rintro e w5 ⟨gb, rfl, hg, n5, hb⟩; have s1 := am n5; have YR := am (RowOf.below H3.out hb); have YB := am (below_step HB.out hb); have HS := am (show w.heap.size + 6 ≤ w5.heap.size by have f9 := hb.size; have b7 := s5.out; omega); have Y3 := am (blk_below B3.out hb); have Y4 := am (blk_below B4.out hb); have Y5 := am (blk_below B5.out hb); have Y6 := am (blk_below B6.out hb); have Y7 := am (blk_below B7.out hb); have Y8 := am (blk_below B8.out hb); clear HB H3 hg n5 hb B3 B4 B5 B6 B7 B8 b0 b1 b2 b3 b4; have B3 := Y3; have B4 := Y4; have B5 := Y5; have B6 := Y6; have B7 := Y7; have B8 := Y8; have HB := YB; have H3 := YR; clear YB YR Y3 Y4 Y5 Y6 Y7 Y8))
 refine wpIn_rangeFunc_ownH (w0 := w5) rfl (by omega) (gf := 78) (lb := #[.pointer (some ⟨gb, 0, none⟩)]) rfl trivial (enters_of Try.func78 (by kernel_rfl) rfl)
  (eachF_stops 5 (by omega) gb ky nm A1 ts.length c1 0 A3 c3 ys w5 w5 (RowOf.reads H3.out HC.out HB.out) (by have h_ := n0.out; (try dsimp only at h_); omega) (Below.refl _ _) s1.out) belowK_t (belowK_b (Nat.le_refl _)) (Below.refl _ _) (fun _ => rfl)
  (fun m9 W => ((W.heap[w.heap.size]? = some (.cells (#[(.string ky), (.string nm), (.slice A1 ts.length c1), (.int .i64 0), (.slice A3 ys.length c3)] : Array Value) 27 (0, 0))) ∧ (W.heap[w.heap.size + 1]? = some (.cells (#[(.int .i64 now)] : Array Value) 3 (0, 0))) ∧ (W.heap[w.heap.size + 1 + 1]? = some (.cells (#[(.int .i64 token)] : Array Value) 3 (0, 0))) ∧ (W.heap[w.heap.size + 1 + 1 + 1]? = some (.cells (#[(.string (⟨#[]⟩ : ByteArray)), (.string (⟨#[]⟩ : ByteArray)), (.slice none 0 0), (.int .i64 0), (.slice none 0 0)] : Array Value) 27 (0, 0))) ∧ (W.heap[w.heap.size + 1 + 1 + 1 + 1]? = some (.cells (#[(.int .i64 0)] : Array Value) 3 (0, 0))) ∧ (W.heap[w.heap.size + 1 + 1 + 1 + 1 + 1]? = some (.cells (#[(.int .i64 0)] : Array Value) 29 (0, 0)))) ∧ (Below w.heap.size w W ∧ (Below w5.heap.size w5 W ∧ ∀ y ∈ m9, notOk k ts ys now token y)))
  (fun c m9 W => ∃ j1 x p, m9 = j1 ++ [x] ∧ (∀ y ∈ j1, notOk k ts ys now token y) ∧ leaseO k (rd_T49 ts (x.val : Int)) (rd_T51 ys (x.val : Int)) now token = some p ∧ p.2 = 0 ∧ c = .ret ∧ Below w.heap.size w W ∧ ∃ A c, W.heap[w.heap.size + 1 + 1 + 1]? = some (.cells (#[(.string ky), (.string nm), (.slice A1 ts.length c1), (.int .i64 0), (.slice A ys.length c)] : Array Value) 27 (0, 0)) ∧ W.heap[w.heap.size + 1 + 1 + 1 + 1]? = some (.cells (#[(.int .i64 ((x.val : Nat) : Int))] : Array Value) 3 (0, 0)) ∧ W.heap[w.heap.size + 1 + 1 + 1 + 1 + 1]? = some (.cells (#[(.int .i64 0)] : Array Value) 29 (0, 0)) ∧ Kd.R k51 51 W w.heap.size (fun _ => True) (.slice A ys.length c) (ys.set x.val p.1))
  (OwnFrom.and (Own.from (fun s A B o9 hs hg hr => ⟨own_cells hs.1 hg hr, own_cells hs.2.1 hg hr, own_cells hs.2.2.1 hg hr, own_cells hs.2.2.2.1 hg hr, own_cells hs.2.2.2.2.1 hg hr, own_cells hs.2.2.2.2.2 hg hr⟩) _) (OwnFrom.and (ownFrom_below (Nat.le_refl _) (by have := HS.out; omega)) (OwnFrom.and (ownFrom_below (Nat.le_refl _) (Nat.le_refl _)) (fun _ _ _ _ hs _ _ => hs))))
  (fun c => fun s A B o9 hs hg hr => by
   obtain ⟨j1, x, p, e1, e2, e3, e4, e5, e6, Aq, cq, h3, h4, h5, h6⟩ := hs
   have o1 := fun r e => (hr r e).2
   exact ⟨j1, x, p, e1, e2, e3, e4, e5, (ownFrom_below (β := Unit) (Nat.le_refl _) (by have := HS.out; omega)) () A B o9 e6 hg hr, Aq, cq, own_cells h3 hg o1, own_cells h4 hg o1, own_cells h5 hg o1, own_R h6 hg o1⟩)
  ⟨⟨B3.out, B4.out, B5.out, B6.out, B7.out, B8.out⟩, HB.out, Below.refl _ _, fun y hy => by cases hy⟩
  (fun x a' W => ∃ Bx, w5.heap.size ≤ Bx ∧ W.heap[Bx]? = some (.cells #[.int .i64 (rd_T51 ys (x.val : Int)).f0, .int .i64 (rd_T51 ys (x.val : Int)).f1, .int .i64 (rd_T51 ys (x.val : Int)).f2, .int .i64 (rd_T51 ys (x.val : Int)).f3, .string (rd_T51 ys (x.val : Int)).f4] 51 (0, 0)) ∧ a' = { tmps := #[.agg #[(.string ky), (.string nm), (.slice A1 ts.length c1), (.int .i64 is), (.slice A2 xs.length c2)], .int .i64 now, .int .i64 token, .pointer (some ⟨w.heap.size, 0, none⟩), .pointer (some ⟨w.heap.size + 1, 0, none⟩), .pointer (some ⟨w.heap.size + 1 + 1, 0, none⟩), .pointer (some ⟨w.heap.size + 1 + 1 + 1, 0, none⟩), .pointer (some ⟨w.heap.size + 1 + 1 + 1 + 1, 0, none⟩), .pointer (some ⟨w.heap.size + 1 + 1 + 1 + 1 + 1, 0, none⟩), .int .i64 0, .int .i64 ((x.val : Nat) : Int), .pointer (some ⟨Bx, 0, none⟩), undef, undef, .tuple #[.agg #[(.string ky), (.string nm), (.slice A1 ts.length c1), (.int .i64 0), (.slice A3 ys.length c3)], .int .i64 0], .agg #[(.string ky), (.string nm), (.slice A1 ts.length c1), (.int .i64 is), (.slice A2 xs.length c2)], .int .i64 now, .tuple #[.agg #[(.string ky), (.string nm), (.slice A1 ts.length c1), (.int .i64 0), (.slice A3 ys.length c3)], .int .i64 0], .agg #[(.string ky), (.string nm), (.slice A1 ts.length c1), (.int .i64 0), (.slice A3 ys.length c3)], .int .i64 0, .bool false, .int .i64 0, .bool false, undef, undef, .bool false, .int .i64 token, .bool false, .bool false, .int .i64 token, .bool false, .bool false, .bool false, .pointer (some ⟨w.heap.size, 4, none⟩), .slice A3 ys.length c3, .func (.func 62) #[] #[.pointer (some ⟨w.heap.size + 1 + 1, 0, none⟩)], .bool false, .bool false, undef, .bool false, .pointer (some ⟨w.heap.size, 3, none⟩), .int .i64 0, .bool false, undef, .agg #[(.string ky), (.string nm), (.slice A1 ts.length c1), (.int .i64 0), (.slice A3 ys.length c3)], .func (.func 78) #[] #[.pointer (some ⟨gb, 0, none⟩)], .int .i64 ((x.val : Nat) : Int), .agg #[.int .i64 (rd_T51 ys (x.val : Int)).f0, .int .i64 (rd_T51 ys (x.val : Int)).f1, .int .i64 (rd_T51 ys (x.val : Int)).f2, .int .i64 (rd_T51 ys (x.val : Int)).f3, .string (rd_T51 ys (x.val : Int)).f4], undef, undef, undef, undef, undef, undef, undef, undef, undef, undef, undef, undef, undef, undef, undef, undef, undef, undef, undef, undef, undef, undef, undef, undef, undef, undef, undef], defers := [] })
  (fun x a' => Own.from (fun s A B o9 hs hg hr => by obtain ⟨Bx, h1, h2, h3⟩ := hs; exact ⟨Bx, h1, own_cells h2 hg hr, h3⟩) _) ?assign ?body ?done ?stop
 case assign =>
  rintro l m9 x W K ⟨⟨h3, h4, h5, h6, h7, h8⟩, hB, m5, hN⟩ hK
  have Z3 := am h3
  have Z4 := am h4
  have Z5 := am h5
  have Z6 := am h6
  have Z7 := am h7
  have Z8 := am h8
  have j0 := am hB
  have f7 := am m5
  have n7 := am hN
  clear h3 h4 h5 h6 h7 h8 hB m5 hN
  dsimp only [encF]
  gi_wp2
  exact hK _ _ ((KeepsOthers.alloc _ _).from _) ((Below.refl _ W).alloc f7.out.size _) ⟨⟨blk_alloc Z3.out _, blk_alloc Z4.out _, blk_alloc Z5.out _, blk_alloc Z6.out _, blk_alloc Z7.out _, blk_alloc Z8.out _⟩, below_alloc j0.out _, below_alloc f7.out _, n7.out⟩ ⟨W.heap.size, f7.out.size, blk_new _ _, rfl⟩
 case body =>
  rintro l m9 x a' W hl hr ⟨⟨h3, h4, h5, h6, h7, h8⟩, hB, m5, hN⟩ ⟨Bx, s6, bX, rfl⟩ s8
  have Z3 := am h3
  have Z4 := am h4
  have Z5 := am h5
  have Z6 := am h6
  have Z7 := am h7
  have Z8 := am h8
  have j0 := am hB
  have f7 := am m5
  have n7 := am hN
  have HX := am bX
  clear h3 h4 h5 h6 h7 h8 hB m5 hN bX hr hl s8 s6
  obtain ⟨p, hp⟩ := Option.isSome_iff_exists.1 (List.all_eq_true.1 HG.out x (List.mem_finRange x))
  have p5 := am hp
  have HP := am (leaseO_f hp)
  have HI := am x.isLt
  clear hp
  have p0 : (0 : Int) ≤ ((x.val : Nat) : Int) := by omega
  have p1 : ((x.val : Nat) : Int) < (ys.length : Int) := by have := HI.out; omega
  have p2 : ((x.val : Nat) : Int) < (ts.length : Int) := by have h_ := n0.out; have := HI.out; (try dsimp only at h_); omega
  obtain ⟨ad, A0, c0, eA, a0, a1, a2, a3, q8, q7⟩ := at_T49 (Kd.C_below HT.out j0.out) ((x.val : Nat) : Int) p0 p2
  rw [Int.toNat_natCast] at a0 a1 a2 a3
  have p8 := am q8
  have p7 := am q7
  clear q8 q7
  subst eA
  have x0 : W.cell? ⟨Bx, 0, none⟩ = some (.int .i64 (rd_T51 ys (x.val : Int)).f0) := bc HX.out
  have x1 : W.cell? ⟨Bx, 1, none⟩ = some (.int .i64 (rd_T51 ys (x.val : Int)).f1) := bc HX.out
  have x2 : W.cell? ⟨Bx, 2, none⟩ = some (.int .i64 (rd_T51 ys (x.val : Int)).f2) := bc HX.out
  have x3 : W.cell? ⟨Bx, 3, none⟩ = some (.int .i64 (rd_T51 ys (x.val : Int)).f3) := bc HX.out
  have x4 : W.cell? ⟨Bx, 4, none⟩ = some (.string (rd_T51 ys (x.val : Int)).f4) := bc HX.out
  have k4 : W.cell? ⟨w.heap.size + 1, 0, none⟩ = some (.int .i64 now) := bc Z4.out
  have k5 : W.cell? ⟨w.heap.size + 1 + 1, 0, none⟩ = some (.int .i64 token) := bc Z5.out
  have n3 : W.cell? ⟨w.heap.size, 2, none⟩ = some (.slice (some ad) ts.length c1) := bc Z3.out
  gi_wp2
  generalize r6 : rd_T51 ys ((x.val : Nat) : Int) = s at *
  generalize r7 : rd_T49 ts ((x.val : Nat) : Int) = t at *
  have p6 := am r6
  have p9 := am r7
  clear r6 r7
  have a4 := am (fun (W' : World) (hW : Below W.heap.size W W') (a : Addr) (v : Value) (h : W.cell? a = some v) => show W'.cell? a = some v from (hW.cell (World.block_lt_of_cell? W _ h)).trans h)
  refine startIn_ (n := 16) (S := fun w' => w'.cell? ⟨w.heap.size, 2, none⟩ = some (.slice (some ad) ts.length c1) ∧ w'.cell? (ad.add (x.val * 4)) = some (.slice A0 t.f0.length c0) ∧ w'.cell? ⟨(ad.add (x.val * 4)).block, (ad.add (x.val * 4)).off + 1, none⟩ = some (.int .i64 t.f1) ∧ w'.cell? ⟨(ad.add (x.val * 4)).block, (ad.add (x.val * 4)).off + 2, none⟩ = some (.int .i64 t.f2) ∧ w'.cell? ⟨(ad.add (x.val * 4)).block, (ad.add (x.val * 4)).off + 3, none⟩ = some (.int .i64 t.f3) ∧ w'.cell? ⟨Bx, 0, none⟩ = some (.int .i64 s.f0) ∧ w'.cell? ⟨Bx, 1, none⟩ = some (.int .i64 s.f1) ∧ w'.cell? ⟨Bx, 2, none⟩ = some (.int .i64 s.f2) ∧ w'.cell? ⟨Bx, 3, none⟩ = some (.int .i64 s.f3) ∧ w'.cell? ⟨Bx, 4, none⟩ = some (.string s.f4) ∧ w'.cell? ⟨w.heap.size + 1, 0, none⟩ = some (.int .i64 now) ∧ w'.cell? ⟨w.heap.size + 1 + 1, 0, none⟩ = some (.int .i64 token)) (ds := [14]) (ba 16 0) (by kernel_rfl) rfl rfl ⟨(a4.out _ (below_drew1 (Below.refl _ _)) _ _ n3), (a4.out _ (below_drew1 (Below.refl _ _)) _ _ a0), (a4.out _ (below_drew1 (Below.refl _ _)) _ _ a1), (a4.out _ (below_drew1 (Below.refl _ _)) _ _ a2), (a4.out _ (below_drew1 (Below.refl _ _)) _ _ a3), (a4.out _ (below_drew1 (Below.refl _ _)) _ _ x0), (a4.out _ (below_drew1 (Below.refl _ _)) _ _ x1), (a4.out _ (below_drew1 (Below.refl _ _)) _ _ x2), (a4.out _ (below_drew1 (Below.refl _ _)) _ _ x3), (a4.out _ (below_drew1 (Below.refl _ _)) _ _ x4), (a4.out _ (below_drew1 (Below.refl _ _)) _ _ k4), (a4.out _ (below_drew1 (Below.refl _ _)) _ _ k5)⟩ ?_ (by kernel_rfl) (fun f8 => ?_)
  ·
   rintro ⟨_, _, h_⟩; exact h_
  refine ph 0 49 (ba 16 1) ?_
  refine ph 1 50 (ba 16 3) ?_
  refine ph 3 52 (ba 16 11) ?_
  refine th 2 51 (ba 16 15) f8 ?_
  refine ph 4 53 (ba 16 31) ?_
  refine th 5 54 (ba 16 63) f8 ?_
  refine th 6 55 (ba 16 127) f8 ?_
  refine th 7 56 (ba 16 255) f8 ?_
  refine th 8 57 (ba 16 511) f8 ?_
  refine join_ (σ := Nat) 2 (ba 16 16383) (fun s_ => [(58, .tuple #[.agg #[(.int .i64 p.1.f0), (.int .i64 p.1.f1), (.int .i64 p.1.f2), (.int .i64 p.1.f3), (.string p.1.f4)], .int .i64 p.2]), (48, .tuple #[.agg #[(.int .i64 p.1.f0), (.int .i64 p.1.f1), (.int .i64 p.1.f2), (.int .i64 p.1.f3), (.string p.1.f4)], .int .i64 p.2]), (59, .agg #[(.int .i64 p.1.f0), (.int .i64 p.1.f1), (.int .i64 p.1.f2), (.int .i64 p.1.f3), (.string p.1.f4)]), (60, .int .i64 p.2), (12, .pointer (some ⟨s_, 0, none⟩))]) (fun s_ w' => (w'.cell? ⟨w.heap.size, 2, none⟩ = some (.slice (some ad) ts.length c1) ∧ w'.cell? (ad.add (x.val * 4)) = some (.slice A0 t.f0.length c0) ∧ w'.cell? ⟨(ad.add (x.val * 4)).block, (ad.add (x.val * 4)).off + 1, none⟩ = some (.int .i64 t.f1) ∧ w'.cell? ⟨(ad.add (x.val * 4)).block, (ad.add (x.val * 4)).off + 2, none⟩ = some (.int .i64 t.f2) ∧ w'.cell? ⟨(ad.add (x.val * 4)).block, (ad.add (x.val * 4)).off + 3, none⟩ = some (.int .i64 t.f3) ∧ w'.cell? ⟨Bx, 0, none⟩ = some (.int .i64 s.f0) ∧ w'.cell? ⟨Bx, 1, none⟩ = some (.int .i64 s.f1) ∧ w'.cell? ⟨Bx, 2, none⟩ = some (.int .i64 s.f2) ∧ w'.cell? ⟨Bx, 3, none⟩ = some (.int .i64 s.f3) ∧ w'.cell? ⟨Bx, 4, none⟩ = some (.string s.f4) ∧ w'.cell? ⟨w.heap.size + 1, 0, none⟩ = some (.int .i64 now) ∧ w'.cell? ⟨w.heap.size + 1 + 1, 0, none⟩ = some (.int .i64 token)) ∧ W.heap.size ≤ s_ ∧ w'.heap[s_]? = some (.cells #[(.int .i64 0), (.int .i64 0), (.int .i64 0), (.int .i64 0), (.string (⟨#[]⟩ : ByteArray))] 51 (0, 0)) ∧ Below W.heap.size W w') ?_ ?_
  rotate_left
  ·
   intro l7
   refine two_ (i := 9) (j := 13) (Ni := some 58) (Nj := some 12) (ba 16 1023) (ba 16 8703) rfl rfl rfl rfl (by kernel_rfl) (by decide) (by decide) (fun K hK => ?_) (fun K hK => ?_)
   ·
    skip
    refine goes_ Try.func63 (by kernel_rfl) rfl #[.agg #[.slice A0 t.f0.length c0, .int .i64 t.f1, .int .i64 t.f2, .int .i64 t.f3], .agg #[(.int .i64 s.f0), (.int .i64 s.f1), (.int .i64 s.f2), (.int .i64 s.f3), (.string s.f4)], .int .i64 now, .int .i64 token] (by rfl) rfl rfl (by simp only [List.map_toArray, List.map_cons, List.map_nil]; rfl) ?_
    with_reducible refine (X.Fl.calls k A0 c0 t.f0 t.f1 t.f2 t.f3 s.f0 s.f1 s.f2 s.f3 s.f4 now token _ _ _ _ _ _ _ (Kd.C_below p7.out (by (with_reducible repeat (first | apply below_alloc | apply below_drew1)); exact Below.refl W.heap.size W)) p8.out HP.out).mono ?_
    rintro e w7 ⟨rfl, hb⟩
    refine ⟨_, rfl, ?_⟩
    have c7 := am (below_step (by (with_reducible repeat (first | apply below_alloc | apply below_drew1)); exact Below.refl W.heap.size W) hb)
    clear hb
    refine hK.out _ _ ⟨(a4.out _ (c7.out) _ _ n3), (a4.out _ (c7.out) _ _ a0), (a4.out _ (c7.out) _ _ a1), (a4.out _ (c7.out) _ _ a2), (a4.out _ (c7.out) _ _ a3), (a4.out _ (c7.out) _ _ x0), (a4.out _ (c7.out) _ _ x1), (a4.out _ (c7.out) _ _ x2), (a4.out _ (c7.out) _ _ x3), (a4.out _ (c7.out) _ _ x4), (a4.out _ (c7.out) _ _ k4), (a4.out _ (c7.out) _ _ k5)⟩ (fun f8 => ?_)
    clear hK K
    refine nh ?_
    refine ph 10 48 (ba 16 2047) ?_
    refine ph 11 59 (ba 16 4095) ?_
    refine ph 12 60 (ba 16 8191) ?_
    refine oh 13 12 (ba 16 16383) fun K hK => ?_
    refine value_ (w1 := ?_) (v := ?_) (by rfl) rfl ?_ ?_
    rotate_left 2
    ·
     go_simp
     constructor
     ·
      rfl
     rfl
    refine hK.out _ _ ⟨(a4.out _ (below_alloc (c7.out) _) _ _ n3), (a4.out _ (below_alloc (c7.out) _) _ _ a0), (a4.out _ (below_alloc (c7.out) _) _ _ a1), (a4.out _ (below_alloc (c7.out) _) _ _ a2), (a4.out _ (below_alloc (c7.out) _) _ _ a3), (a4.out _ (below_alloc (c7.out) _) _ _ x0), (a4.out _ (below_alloc (c7.out) _) _ _ x1), (a4.out _ (below_alloc (c7.out) _) _ _ x2), (a4.out _ (below_alloc (c7.out) _) _ _ x3), (a4.out _ (below_alloc (c7.out) _) _ _ x4), (a4.out _ (below_alloc (c7.out) _) _ _ k4), (a4.out _ (below_alloc (c7.out) _) _ _ k5)⟩ (fun f8 => ?_)
    clear hK K
    refine nh ?_
    exact norm_ (by simp only [putAll, Act.put, List.setIfInBounds_toArray, List.set_cons_zero, List.set_cons_succ]) (l7 w7.heap.size _ ⟨f8, c7.out.size, blk_new w7 (.cells #[(.int .i64 0), (.int .i64 0), (.int .i64 0), (.int .i64 0), (.string (⟨#[]⟩ : ByteArray))] 51), below_alloc c7.out _⟩)
   skip
   refine value_ (w1 := ?_) (v := ?_) (by rfl) rfl ?_ ?_
   rotate_left 2
   ·
    go_simp
    constructor
    ·
     rfl
    rfl
   refine hK.out _ _ ⟨(a4.out _ (below_alloc (below_drew1 (Below.refl _ _)) _) _ _ n3), (a4.out _ (below_alloc (below_drew1 (Below.refl _ _)) _) _ _ a0), (a4.out _ (below_alloc (below_drew1 (Below.refl _ _)) _) _ _ a1), (a4.out _ (below_alloc (below_drew1 (Below.refl _ _)) _) _ _ a2), (a4.out _ (below_alloc (below_drew1 (Below.refl _ _)) _) _ _ a3), (a4.out _ (below_alloc (below_drew1 (Below.refl _ _)) _) _ _ x0), (a4.out _ (below_alloc (below_drew1 (Below.refl _ _)) _) _ _ x1), (a4.out _ (below_alloc (below_drew1 (Below.refl _ _)) _) _ _ x2), (a4.out _ (below_alloc (below_drew1 (Below.refl _ _)) _) _ _ x3), (a4.out _ (below_alloc (below_drew1 (Below.refl _ _)) _) _ _ x4), (a4.out _ (below_alloc (below_drew1 (Below.refl _ _)) _) _ _ k4), (a4.out _ (below_alloc (below_drew1 (Below.refl _ _)) _) _ _ k5)⟩ (fun f8 => ?_)
   clear hK K
   refine nh ?_
   refine oh 9 58 (ba 16 9215) fun K hK => ?_
   refine goes_ Try.func63 (by kernel_rfl) rfl #[.agg #[.slice A0 t.f0.length c0, .int .i64 t.f1, .int .i64 t.f2, .int .i64 t.f3], .agg #[(.int .i64 s.f0), (.int .i64 s.f1), (.int .i64 s.f2), (.int .i64 s.f3), (.string s.f4)], .int .i64 now, .int .i64 token] (by rfl) rfl rfl (by simp only [List.map_toArray, List.map_cons, List.map_nil]; rfl) ?_
   with_reducible refine (X.Fl.calls k A0 c0 t.f0 t.f1 t.f2 t.f3 s.f0 s.f1 s.f2 s.f3 s.f4 now token _ _ _ _ _ _ _ (Kd.C_below p7.out (by (with_reducible repeat (first | apply below_alloc | apply below_drew1)); exact Below.refl W.heap.size W)) p8.out HP.out).mono ?_
   rintro e w7 ⟨rfl, hb⟩
   refine ⟨_, rfl, ?_⟩
   have c7 := am (below_step (by (with_reducible repeat (first | apply below_alloc | apply below_drew1)); exact Below.refl W.heap.size W) hb)
   have s3 := am (blk_below (show (W.alloc (.cells #[(.int .i64 0), (.int .i64 0), (.int .i64 0), (.int .i64 0), (.string (⟨#[]⟩ : ByteArray))] 51)).drew.heap[W.heap.size]? = some (.cells #[(.int .i64 0), (.int .i64 0), (.int .i64 0), (.int .i64 0), (.string (⟨#[]⟩ : ByteArray))] 51 (0, 0)) from blk_drew (blk_new W (.cells #[(.int .i64 0), (.int .i64 0), (.int .i64 0), (.int .i64 0), (.string (⟨#[]⟩ : ByteArray))] 51))) hb)
   clear hb
   refine hK.out _ _ ⟨(a4.out _ (c7.out) _ _ n3), (a4.out _ (c7.out) _ _ a0), (a4.out _ (c7.out) _ _ a1), (a4.out _ (c7.out) _ _ a2), (a4.out _ (c7.out) _ _ a3), (a4.out _ (c7.out) _ _ x0), (a4.out _ (c7.out) _ _ x1), (a4.out _ (c7.out) _ _ x2), (a4.out _ (c7.out) _ _ x3), (a4.out _ (c7.out) _ _ x4), (a4.out _ (c7.out) _ _ k4), (a4.out _ (c7.out) _ _ k5)⟩ (fun f8 => ?_)
   clear hK K
   refine nh ?_
   refine ph 10 48 (ba 16 10239) ?_
   refine ph 11 59 (ba 16 12287) ?_
   refine ph 12 60 (ba 16 16383) ?_
   exact norm_ (by simp only [putAll, Act.put, List.setIfInBounds_toArray, List.set_cons_zero, List.set_cons_succ]) (l7 W.heap.size _ ⟨f8, Nat.le_refl _, s3.out, c7.out⟩)
  rintro a5 w7 ⟨q6, r2, q9, r0⟩
  have g1 := am r2
  have BP := am q9
  have c7 := am r0
  have f8 := q6
  clear r2 q9 r0 q6
  have y0 : w7.cell? ⟨a5, 0, none⟩ = some (.int .i64 0) := bc BP.out
  have y1 : w7.cell? ⟨a5, 1, none⟩ = some (.int .i64 0) := bc BP.out
  have y2 : w7.cell? ⟨a5, 2, none⟩ = some (.int .i64 0) := bc BP.out
  have y3 : w7.cell? ⟨a5, 3, none⟩ = some (.int .i64 0) := bc BP.out
  have y4 : w7.cell? ⟨a5, 4, none⟩ = some (.string (⟨#[]⟩ : ByteArray)) := bc BP.out
  have u7 := blk_frozen BP.out 0
  have u8 := blk_frozen BP.out 1
  have u9 := blk_frozen BP.out 2
  have v0 := blk_frozen BP.out 3
  have v1 := blk_frozen BP.out 4
  refine norm_ (a' := ?_) ?_ ?_
  rotate_left
  ·
   simp only [putAll, Act.put, List.setIfInBounds_toArray, List.set_cons_zero, List.set_cons_succ]
   rfl
  refine last_ (i := 14) (N := none) (ba 16 32767) rfl rfl (by kernel_rfl) (by decide) (fun K hK => ?_)
  refine skip_ (w1 := ?_) (by rfl) rfl ?_ ?_
  rotate_left
  ·
   go_simp
   rfl
  refine hK.out _ _ ?_
  clear hK K
  refine ph 15 13 (ba 16 65535) ?_
  refine done_ (by kernel_rfl) ?_
  have X3 := am (show (((((w7.setCell ⟨a5, 0, none⟩ (.int .i64 p.1.f0)).setCell ⟨a5, 1, none⟩ (.int .i64 p.1.f1)).setCell ⟨a5, 2, none⟩ (.int .i64 p.1.f2)).setCell ⟨a5, 3, none⟩ (.int .i64 p.1.f3)).setCell ⟨a5, 4, none⟩ (.string p.1.f4)).heap[w.heap.size]? = some (.cells (#[(.string ky), (.string nm), (.slice (some ad) ts.length c1), (.int .i64 0), (.slice A3 ys.length c3)] : Array Value) 27 (0, 0)) from (blk_far (blk_far (blk_far (blk_far (blk_far (blk_below Z3.out c7.out) (by have f9 := g1.out; have b7 := f7.out.size; have h9 := HS.out; show w.heap.size ≠ a5; omega) _) (by have f9 := g1.out; have b7 := f7.out.size; have h9 := HS.out; show w.heap.size ≠ a5; omega) _) (by have f9 := g1.out; have b7 := f7.out.size; have h9 := HS.out; show w.heap.size ≠ a5; omega) _) (by have f9 := g1.out; have b7 := f7.out.size; have h9 := HS.out; show w.heap.size ≠ a5; omega) _) (by have f9 := g1.out; have b7 := f7.out.size; have h9 := HS.out; show w.heap.size ≠ a5; omega) _))
  have X4 := am (show (((((w7.setCell ⟨a5, 0, none⟩ (.int .i64 p.1.f0)).setCell ⟨a5, 1, none⟩ (.int .i64 p.1.f1)).setCell ⟨a5, 2, none⟩ (.int .i64 p.1.f2)).setCell ⟨a5, 3, none⟩ (.int .i64 p.1.f3)).setCell ⟨a5, 4, none⟩ (.string p.1.f4)).heap[w.heap.size + 1]? = some (.cells (#[(.int .i64 now)] : Array Value) 3 (0, 0)) from (blk_far (blk_far (blk_far (blk_far (blk_far (blk_below Z4.out c7.out) (by have f9 := g1.out; have b7 := f7.out.size; have h9 := HS.out; show w.heap.size + 1 ≠ a5; omega) _) (by have f9 := g1.out; have b7 := f7.out.size; have h9 := HS.out; show w.heap.size + 1 ≠ a5; omega) _) (by have f9 := g1.out; have b7 := f7.out.size; have h9 := HS.out; show w.heap.size + 1 ≠ a5; omega) _) (by have f9 := g1.out; have b7 := f7.out.size; have h9 := HS.out; show w.heap.size + 1 ≠ a5; omega) _) (by have f9 := g1.out; have b7 := f7.out.size; have h9 := HS.out; show w.heap.size + 1 ≠ a5; omega) _))
  have X5 := am (show (((((w7.setCell ⟨a5, 0, none⟩ (.int .i64 p.1.f0)).setCell ⟨a5, 1, none⟩ (.int .i64 p.1.f1)).setCell ⟨a5, 2, none⟩ (.int .i64 p.1.f2)).setCell ⟨a5, 3, none⟩ (.int .i64 p.1.f3)).setCell ⟨a5, 4, none⟩ (.string p.1.f4)).heap[w.heap.size + 1 + 1]? = some (.cells (#[(.int .i64 token)] : Array Value) 3 (0, 0)) from (blk_far (blk_far (blk_far (blk_far (blk_far (blk_below Z5.out c7.out) (by have f9 := g1.out; have b7 := f7.out.size; have h9 := HS.out; show w.heap.size + 1 + 1 ≠ a5; omega) _) (by have f9 := g1.out; have b7 := f7.out.size; have h9 := HS.out; show w.heap.size + 1 + 1 ≠ a5; omega) _) (by have f9 := g1.out; have b7 := f7.out.size; have h9 := HS.out; show w.heap.size + 1 + 1 ≠ a5; omega) _) (by have f9 := g1.out; have b7 := f7.out.size; have h9 := HS.out; show w.heap.size + 1 + 1 ≠ a5; omega) _) (by have f9 := g1.out; have b7 := f7.out.size; have h9 := HS.out; show w.heap.size + 1 + 1 ≠ a5; omega) _))
  have X6 := am (show (((((w7.setCell ⟨a5, 0, none⟩ (.int .i64 p.1.f0)).setCell ⟨a5, 1, none⟩ (.int .i64 p.1.f1)).setCell ⟨a5, 2, none⟩ (.int .i64 p.1.f2)).setCell ⟨a5, 3, none⟩ (.int .i64 p.1.f3)).setCell ⟨a5, 4, none⟩ (.string p.1.f4)).heap[w.heap.size + 1 + 1 + 1]? = some (.cells (#[(.string (⟨#[]⟩ : ByteArray)), (.string (⟨#[]⟩ : ByteArray)), (.slice none 0 0), (.int .i64 0), (.slice none 0 0)] : Array Value) 27 (0, 0)) from (blk_far (blk_far (blk_far (blk_far (blk_far (blk_below Z6.out c7.out) (by have f9 := g1.out; have b7 := f7.out.size; have h9 := HS.out; show w.heap.size + 1 + 1 + 1 ≠ a5; omega) _) (by have f9 := g1.out; have b7 := f7.out.size; have h9 := HS.out; show w.heap.size + 1 + 1 + 1 ≠ a5; omega) _) (by have f9 := g1.out; have b7 := f7.out.size; have h9 := HS.out; show w.heap.size + 1 + 1 + 1 ≠ a5; omega) _) (by have f9 := g1.out; have b7 := f7.out.size; have h9 := HS.out; show w.heap.size + 1 + 1 + 1 ≠ a5; omega) _) (by have f9 := g1.out; have b7 := f7.out.size; have h9 := HS.out; show w.heap.size + 1 + 1 + 1 ≠ a5; omega) _))
  have X7 := am (show (((((w7.setCell ⟨a5, 0, none⟩ (.int .i64 p.1.f0)).setCell ⟨a5, 1, none⟩ (.int .i64 p.1.f1)).setCell ⟨a5, 2, none⟩ (.int .i64 p.1.f2)).setCell ⟨a5, 3, none⟩ (.int .i64 p.1.f3)).setCell ⟨a5, 4, none⟩ (.string p.1.f4)).heap[w.heap.size + 1 + 1 + 1 + 1]? = some (.cells (#[(.int .i64 0)] : Array Value) 3 (0, 0)) from (blk_far (blk_far (blk_far (blk_far (blk_far (blk_below Z7.out c7.out) (by have f9 := g1.out; have b7 := f7.out.size; have h9 := HS.out; show w.heap.size + 1 + 1 + 1 + 1 ≠ a5; omega) _) (by have f9 := g1.out; have b7 := f7.out.size; have h9 := HS.out; show w.heap.size + 1 + 1 + 1 + 1 ≠ a5; omega) _) (by have f9 := g1.out; have b7 := f7.out.size; have h9 := HS.out; show w.heap.size + 1 + 1 + 1 + 1 ≠ a5; omega) _) (by have f9 := g1.out; have b7 := f7.out.size; have h9 := HS.out; show w.heap.size + 1 + 1 + 1 + 1 ≠ a5; omega) _) (by have f9 := g1.out; have b7 := f7.out.size; have h9 := HS.out; show w.heap.size + 1 + 1 + 1 + 1 ≠ a5; omega) _))
  have X8 := am (show (((((w7.setCell ⟨a5, 0, none⟩ (.int .i64 p.1.f0)).setCell ⟨a5, 1, none⟩ (.int .i64 p.1.f1)).setCell ⟨a5, 2, none⟩ (.int .i64 p.1.f2)).setCell ⟨a5, 3, none⟩ (.int .i64 p.1.f3)).setCell ⟨a5, 4, none⟩ (.string p.1.f4)).heap[w.heap.size + 1 + 1 + 1 + 1 + 1]? = some (.cells (#[(.int .i64 0)] : Array Value) 29 (0, 0)) from (blk_far (blk_far (blk_far (blk_far (blk_far (blk_below Z8.out c7.out) (by have f9 := g1.out; have b7 := f7.out.size; have h9 := HS.out; show w.heap.size + 1 + 1 + 1 + 1 + 1 ≠ a5; omega) _) (by have f9 := g1.out; have b7 := f7.out.size; have h9 := HS.out; show w.heap.size + 1 + 1 + 1 + 1 + 1 ≠ a5; omega) _) (by have f9 := g1.out; have b7 := f7.out.size; have h9 := HS.out; show w.heap.size + 1 + 1 + 1 + 1 + 1 ≠ a5; omega) _) (by have f9 := g1.out; have b7 := f7.out.size; have h9 := HS.out; show w.heap.size + 1 + 1 + 1 + 1 + 1 ≠ a5; omega) _) (by have f9 := g1.out; have b7 := f7.out.size; have h9 := HS.out; show w.heap.size + 1 + 1 + 1 + 1 + 1 ≠ a5; omega) _))
  have XP := am (show (((((w7.setCell ⟨a5, 0, none⟩ (.int .i64 p.1.f0)).setCell ⟨a5, 1, none⟩ (.int .i64 p.1.f1)).setCell ⟨a5, 2, none⟩ (.int .i64 p.1.f2)).setCell ⟨a5, 3, none⟩ (.int .i64 p.1.f3)).setCell ⟨a5, 4, none⟩ (.string p.1.f4)).heap[a5]? = some (.cells #[(.int .i64 p.1.f0), (.int .i64 p.1.f1), (.int .i64 p.1.f2), (.int .i64 p.1.f3), (.string p.1.f4)] 51 (0, 0)) from (blk_put (cs := #[(.int .i64 p.1.f0), (.int .i64 p.1.f1), (.int .i64 p.1.f2), (.int .i64 p.1.f3), (.string (⟨#[]⟩ : ByteArray))]) (cs' := #[(.int .i64 p.1.f0), (.int .i64 p.1.f1), (.int .i64 p.1.f2), (.int .i64 p.1.f3), (.string p.1.f4)]) (blk_put (cs := #[(.int .i64 p.1.f0), (.int .i64 p.1.f1), (.int .i64 p.1.f2), (.int .i64 0), (.string (⟨#[]⟩ : ByteArray))]) (cs' := #[(.int .i64 p.1.f0), (.int .i64 p.1.f1), (.int .i64 p.1.f2), (.int .i64 p.1.f3), (.string (⟨#[]⟩ : ByteArray))]) (blk_put (cs := #[(.int .i64 p.1.f0), (.int .i64 p.1.f1), (.int .i64 0), (.int .i64 0), (.string (⟨#[]⟩ : ByteArray))]) (cs' := #[(.int .i64 p.1.f0), (.int .i64 p.1.f1), (.int .i64 p.1.f2), (.int .i64 0), (.string (⟨#[]⟩ : ByteArray))]) (blk_put (cs := #[(.int .i64 p.1.f0), (.int .i64 0), (.int .i64 0), (.int .i64 0), (.string (⟨#[]⟩ : ByteArray))]) (cs' := #[(.int .i64 p.1.f0), (.int .i64 p.1.f1), (.int .i64 0), (.int .i64 0), (.string (⟨#[]⟩ : ByteArray))]) (blk_put (cs := #[(.int .i64 0), (.int .i64 0), (.int .i64 0), (.int .i64 0), (.string (⟨#[]⟩ : ByteArray))]) (cs' := #[(.int .i64 p.1.f0), (.int .i64 0), (.int .i64 0), (.int .i64 0), (.string (⟨#[]⟩ : ByteArray))]) BP.out 0 _ rfl) 1 _ rfl) 2 _ rfl) 3 _ rfl) 4 _ rfl))
  have g0 := am (show w5.heap.size ≤ a5 from Nat.le_trans f7.out.size g1.out)
  have n4 := am (show Below w.heap.size w (((((w7.setCell ⟨a5, 0, none⟩ (.int .i64 p.1.f0)).setCell ⟨a5, 1, none⟩ (.int .i64 p.1.f1)).setCell ⟨a5, 2, none⟩ (.int .i64 p.1.f2)).setCell ⟨a5, 3, none⟩ (.int .i64 p.1.f3)).setCell ⟨a5, 4, none⟩ (.string p.1.f4)) from (below_set (below_set (below_set (below_set (below_set (below_step j0.out c7.out) (by have f9 := g0.out; have b7 := HS.out; show w.heap.size ≤ a5; omega)) (by have f9 := g0.out; have b7 := HS.out; show w.heap.size ≤ a5; omega)) (by have f9 := g0.out; have b7 := HS.out; show w.heap.size ≤ a5; omega)) (by have f9 := g0.out; have b7 := HS.out; show w.heap.size ≤ a5; omega)) (by have f9 := g0.out; have b7 := HS.out; show w.heap.size ≤ a5; omega)))
  have q1 := am (show Below w5.heap.size w5 (((((w7.setCell ⟨a5, 0, none⟩ (.int .i64 p.1.f0)).setCell ⟨a5, 1, none⟩ (.int .i64 p.1.f1)).setCell ⟨a5, 2, none⟩ (.int .i64 p.1.f2)).setCell ⟨a5, 3, none⟩ (.int .i64 p.1.f3)).setCell ⟨a5, 4, none⟩ (.string p.1.f4)) from (below_set (below_set (below_set (below_set (below_set (below_step f7.out c7.out) g0.out) g0.out) g0.out) g0.out) g0.out))
  have q4 := am (show Below w5.heap.size W (((((w7.setCell ⟨a5, 0, none⟩ (.int .i64 p.1.f0)).setCell ⟨a5, 1, none⟩ (.int .i64 p.1.f1)).setCell ⟨a5, 2, none⟩ (.int .i64 p.1.f2)).setCell ⟨a5, 3, none⟩ (.int .i64 p.1.f3)).setCell ⟨a5, 4, none⟩ (.string p.1.f4)) from ((((((c7.out.mono f7.out.size).setCell (p := ⟨a5, 0, none⟩) g0.out _).setCell (p := ⟨a5, 1, none⟩) g0.out _).setCell (p := ⟨a5, 2, none⟩) g0.out _).setCell (p := ⟨a5, 3, none⟩) g0.out _).setCell (p := ⟨a5, 4, none⟩) g0.out _))
  have KF := am (show KeepsFrom w5.heap.size W (((((w7.setCell ⟨a5, 0, none⟩ (.int .i64 p.1.f0)).setCell ⟨a5, 1, none⟩ (.int .i64 p.1.f1)).setCell ⟨a5, 2, none⟩ (.int .i64 p.1.f2)).setCell ⟨a5, 3, none⟩ (.int .i64 p.1.f3)).setCell ⟨a5, 4, none⟩ (.string p.1.f4)) from (KeepsFrom.trans (KeepsFrom.trans (KeepsFrom.trans (KeepsFrom.trans (KeepsFrom.trans ((keeps_below c7.out).from w5.heap.size) ((KeepsOthers.setCell _ _ _).from _)) ((KeepsOthers.setCell _ _ _).from _)) ((KeepsOthers.setCell _ _ _).from _)) ((KeepsOthers.setCell _ _ _).from _)) ((KeepsOthers.setCell _ _ _).from _)))
  clear f8 a4 c7 g1 BP HX k4 k5 n3 x0 x1 x2 x3 x4 a0 a1 a2 a3 y0 y1 y2 y3 y4 u7 u8 u9 v0 v1 j0 f7 Z3 Z4 Z5 Z6 Z7 Z8
  have Z3 := X3
  have Z4 := X4
  have Z5 := X5
  have Z6 := X6
  have Z7 := X7
  have Z8 := X8
  have j0 := n4
  have f7 := q1
  clear n4 q1 X3 X4 X5 X6 X7 X8
  generalize (((((w7.setCell ⟨a5, 0, none⟩ (.int .i64 p.1.f0)).setCell ⟨a5, 1, none⟩ (.int .i64 p.1.f1)).setCell ⟨a5, 2, none⟩ (.int .i64 p.1.f2)).setCell ⟨a5, 3, none⟩ (.int .i64 p.1.f3)).setCell ⟨a5, 4, none⟩ (.string p.1.f4)) = w8 at *
  by_cases q2 : p.2 = 0
  case neg =>
   have o3 := am q2
   have E4 := beq_eq_false_iff_ne.2 q2
   clear q2
   gi_wp2
   refine ⟨KF.out, q4.out, ⟨Z3.out, Z4.out, Z5.out, Z6.out, Z7.out, Z8.out⟩, j0.out, f7.out, fun y hy => ?_⟩
   rcases List.mem_append.1 hy with hy | hy
   ·
    exact n7.out y hy
   obtain rfl := List.mem_singleton.1 hy
   intro p' r3
   rw [p6.out, p9.out, p5.out] at r3
   cases r3
   exact o3.out
  have o3 := am q2
  have E4 := q2
  clear q2 q4
  obtain ⟨b0, b1, b2, b3, b4⟩ := ce5 Z3.out
  have j2 := blk_frozen Z3.out 4
  gi_wp2_with ((first | (refine ⟨trivial, ?_⟩; gi_at_call 37) | gi_at_call 37); refine (CallsIn.inRound l (callsIn_wide.2 (clone_calls A3 c3 ys _ (RowOf.reads (RowOf.below H3.out f7.out) HC.out j0.out) (by have h_ := n0.out; (try dsimp only at h_); omega)))).mono ?_; rintro e w9 ⟨v9, rfl, ho, hb⟩; obtain ⟨A9, c9, e9⟩ := Kd.R_slice ho; subst e9; have H9 := am (Kd.R_lower ho (below_size j0.out)); have X3 := am (blk_below Z3.out hb); have X6 := am (blk_below Z6.out hb); have X7 := am (blk_below Z7.out hb); have X8 := am (blk_below Z8.out hb); have q5 := am (blk_below XP.out hb); have n4 := am (below_step j0.out hb); have q3 := am (KeepsFrom.trans KF.out ((keeps_below hb).from _)); clear Z3 Z6 Z7 Z8 Z4 Z5 XP j0 KF hb ho b0 b1 b2 b3 b4 j2; have Z3 := X3; have Z6 := X6; have Z7 := X7; have Z8 := X8; have XP := q5; have j0 := n4; have KF := q3; clear X3 X6 X7 X8 q5 n4 q3; obtain ⟨gr, v6, e6, n5, v7, o5, n2⟩ := Kd.R_form H9.out (by have := HI.out; omega); injection e6 with e6 e7 e8; subst e6; subst e8; clear e7; obtain ⟨cc, s7, o6, m6, r1⟩ := Kd.R_elem H9.out z51 ((x.val : Nat) : Int) (by omega) (by have := HI.out; omega); rw [Int.toNat_natCast] at m6 r1; generalize ys.getD (((x.val : Nat) : Int)).toNat z51 = s2 at o6; obtain rfl := X.k51_openM o6; clear o6 s7; have t0 : w9.cell? ⟨gr, x.val * 5, none⟩ = some (.int .i64 s2.f0) := m6 0 _ rfl; have t1 : w9.cell? ⟨gr, x.val * 5 + 1, none⟩ = some (.int .i64 s2.f1) := m6 1 _ rfl; have t2 : w9.cell? ⟨gr, x.val * 5 + 2, none⟩ = some (.int .i64 s2.f2) := m6 2 _ rfl; have t3 : w9.cell? ⟨gr, x.val * 5 + 3, none⟩ = some (.int .i64 s2.f3) := m6 3 _ rfl; have t4 : w9.cell? ⟨gr, x.val * 5 + 4, none⟩ = some (.string s2.f4) := m6 4 _ rfl; have u2 : w9.frozen? ⟨gr, x.val * 5, none⟩ = false := blk_frozen n2 _; have u3 : w9.frozen? ⟨gr, x.val * 5 + 1, none⟩ = false := blk_frozen n2 _; have u4 : w9.frozen? ⟨gr, x.val * 5 + 2, none⟩ = false := blk_frozen n2 _; have u5 : w9.frozen? ⟨gr, x.val * 5 + 3, none⟩ = false := blk_frozen n2 _; have u6 : w9.frozen? ⟨gr, x.val * 5 + 4, none⟩ = false := blk_frozen n2 _; have o4 := am (Kd.own_blk (Kd.R_ne H9.out Z3.out (by decide))); have n8 := am (Kd.own_blk (Kd.R_ne H9.out Z6.out (by decide))); have n9 := am (Kd.own_blk (Kd.R_ne H9.out Z7.out (by decide))); have o0 := am (Kd.own_blk (Kd.R_ne H9.out Z8.out (by decide))); have x6 := o4.out; have y9 := o4.out.symm; have x8 := n8.out; have z0 := n8.out.symm; have y6 := n9.out; have z6 := n9.out.symm; have y8 := o0.out; have z7 := o0.out.symm; have o8 : w.heap.size ≠ a5 := (by have f9 := g0.out; have b7 := HS.out; omega); have u1 := o8.symm; have o2 := am n5; clear m6 r1 n5 n2; obtain ⟨b0, b1, b2, b3, b4⟩ := ce5 Z3.out; have j2 := blk_frozen Z3.out 4; have y0 : w9.cell? ⟨a5, 0, none⟩ = some (.int .i64 p.1.f0) := bc XP.out; have y1 : w9.cell? ⟨a5, 1, none⟩ = some (.int .i64 p.1.f1) := bc XP.out; have y2 : w9.cell? ⟨a5, 2, none⟩ = some (.int .i64 p.1.f2) := bc XP.out; have y3 : w9.cell? ⟨a5, 3, none⟩ = some (.int .i64 p.1.f3) := bc XP.out; have y4 : w9.cell? ⟨a5, 4, none⟩ = some (.string p.1.f4) := bc XP.out; obtain ⟨d0, d1, d2, d3, d4⟩ := ce5 Z6.out; obtain ⟨j3, j4, j5, j6, j7⟩ := z5 Z6.out; have q0 := ce1 Z7.out; have j8 := z1 Z7.out; have u0 := ce1 Z8.out; have j9 := z1 Z8.out)
  have X6 := am (show (St5 (w9.setCell ⟨w.heap.size, 4, none⟩ (.slice (some ⟨gr, 0, none⟩) ys.length c9)) gr (x.val * 5) p.1).heap[w.heap.size + 1 + 1 + 1]? = some (.cells (#[(.string (⟨#[]⟩ : ByteArray)), (.string (⟨#[]⟩ : ByteArray)), (.slice none 0 0), (.int .i64 0), (.slice none 0 0)] : Array Value) 27 (0, 0)) from st5_far _ _ _ _ _ _ _ (blk_far Z6.out (by show w.heap.size + 1 + 1 + 1 ≠ w.heap.size; omega) _) n8.out.symm)
  have X7 := am (show (St5 (w9.setCell ⟨w.heap.size, 4, none⟩ (.slice (some ⟨gr, 0, none⟩) ys.length c9)) gr (x.val * 5) p.1).heap[w.heap.size + 1 + 1 + 1 + 1]? = some (.cells (#[(.int .i64 0)] : Array Value) 3 (0, 0)) from st5_far _ _ _ _ _ _ _ (blk_far Z7.out (by show w.heap.size + 1 + 1 + 1 + 1 ≠ w.heap.size; omega) _) n9.out.symm)
  have X8 := am (show (St5 (w9.setCell ⟨w.heap.size, 4, none⟩ (.slice (some ⟨gr, 0, none⟩) ys.length c9)) gr (x.val * 5) p.1).heap[w.heap.size + 1 + 1 + 1 + 1 + 1]? = some (.cells (#[(.int .i64 0)] : Array Value) 29 (0, 0)) from st5_far _ _ _ _ _ _ _ (blk_far Z8.out (by show w.heap.size + 1 + 1 + 1 + 1 + 1 ≠ w.heap.size; omega) _) o0.out.symm)
  have XR := am (show Kd.R k51 51 (St5 (w9.setCell ⟨w.heap.size, 4, none⟩ (.slice (some ⟨gr, 0, none⟩) ys.length c9)) gr (x.val * 5) p.1) w.heap.size (fun _ => True) (.slice (some ⟨gr, 0, none⟩) ys.length c9) (ys.set x.val p.1) from put51 _ w.heap.size gr ys.length c9 (fun _ => True) ys (Kd.R_set H9.out Z3.out (by decide) 4 (.slice (some ⟨gr, 0, none⟩) ys.length c9)) x.val HI.out p.1)
  have XB := am (show Below w.heap.size w (St5 (w9.setCell ⟨w.heap.size, 4, none⟩ (.slice (some ⟨gr, 0, none⟩) ys.length c9)) gr (x.val * 5) p.1) from st5_below _ _ _ _ _ (below_set j0.out (by show w.heap.size ≤ w.heap.size; omega)) o2.out)
  have XK := am (show KeepsFrom w5.heap.size W (St5 (w9.setCell ⟨w.heap.size, 4, none⟩ (.slice (some ⟨gr, 0, none⟩) ys.length c9)) gr (x.val * 5) p.1) from KeepsFrom.trans (KeepsFrom.trans (KeepsFrom.trans (KeepsFrom.trans (KeepsFrom.trans (KeepsFrom.trans KF.out ((KeepsOthers.setCell _ _ _).from _)) ((KeepsOthers.setCell _ _ _).from _)) ((KeepsOthers.setCell _ _ _).from _)) ((KeepsOthers.setCell _ _ _).from _)) ((KeepsOthers.setCell _ _ _).from _)) ((KeepsOthers.setCell _ _ _).from _))
  clear Z3 Z6 Z7 Z8 H9 j0 KF XP o4 n8 n9 o0 t0 t1 t2 t3 t4 u2 u3 u4 u5 u6 y0 y1 y2 y3 y4 j2 q0 j8 u0 j9 b0 b1 b2 b3 b4 d0 d1 d2 d3 d4 j3 j4 j5 j6 j7
  unfold St5 at X6 X7 X8 XR XB XK
  generalize ((((((w9.setCell ⟨w.heap.size, 4, none⟩ (.slice (some ⟨gr, 0, none⟩) ys.length c9)).setCell ⟨gr, x.val * 5, none⟩ (.int .i64 p.1.f0)).setCell ⟨gr, x.val * 5 + 1, none⟩ (.int .i64 p.1.f1)).setCell ⟨gr, x.val * 5 + 2, none⟩ (.int .i64 p.1.f2)).setCell ⟨gr, x.val * 5 + 3, none⟩ (.int .i64 p.1.f3)).setCell ⟨gr, x.val * 5 + 4, none⟩ (.string p.1.f4)) = m4 at *
  have F6 := (show (((((((m4.setCell ⟨w.heap.size + 1 + 1 + 1, 0, none⟩ (.string ky)).setCell ⟨w.heap.size + 1 + 1 + 1, 1, none⟩ (.string nm)).setCell ⟨w.heap.size + 1 + 1 + 1, 2, none⟩ (.slice (some ad) ts.length c1)).setCell ⟨w.heap.size + 1 + 1 + 1, 3, none⟩ (.int .i64 0)).setCell ⟨w.heap.size + 1 + 1 + 1, 4, none⟩ (.slice (some ⟨gr, 0, none⟩) ys.length c9)).setCell ⟨w.heap.size + 1 + 1 + 1 + 1, 0, none⟩ (.int .i64 ((x.val : Nat) : Int))).setCell ⟨w.heap.size + 1 + 1 + 1 + 1 + 1, 0, none⟩ (.int .i64 0)).heap[w.heap.size + 1 + 1 + 1]? = some (.cells (#[(.string ky), (.string nm), (.slice (some ad) ts.length c1), (.int .i64 0), (.slice (some ⟨gr, 0, none⟩) ys.length c9)] : Array Value) 27 (0, 0)) from (blk_far (blk_far (blk_put (cs := #[(.string ky), (.string nm), (.slice (some ad) ts.length c1), (.int .i64 0), (.slice none 0 0)]) (cs' := #[(.string ky), (.string nm), (.slice (some ad) ts.length c1), (.int .i64 0), (.slice (some ⟨gr, 0, none⟩) ys.length c9)]) (blk_put (cs := #[(.string ky), (.string nm), (.slice (some ad) ts.length c1), (.int .i64 0), (.slice none 0 0)]) (cs' := #[(.string ky), (.string nm), (.slice (some ad) ts.length c1), (.int .i64 0), (.slice none 0 0)]) (blk_put (cs := #[(.string ky), (.string nm), (.slice none 0 0), (.int .i64 0), (.slice none 0 0)]) (cs' := #[(.string ky), (.string nm), (.slice (some ad) ts.length c1), (.int .i64 0), (.slice none 0 0)]) (blk_put (cs := #[(.string ky), (.string (⟨#[]⟩ : ByteArray)), (.slice none 0 0), (.int .i64 0), (.slice none 0 0)]) (cs' := #[(.string ky), (.string nm), (.slice none 0 0), (.int .i64 0), (.slice none 0 0)]) (blk_put (cs := #[(.string (⟨#[]⟩ : ByteArray)), (.string (⟨#[]⟩ : ByteArray)), (.slice none 0 0), (.int .i64 0), (.slice none 0 0)]) (cs' := #[(.string ky), (.string (⟨#[]⟩ : ByteArray)), (.slice none 0 0), (.int .i64 0), (.slice none 0 0)]) X6.out 0 _ rfl) 1 _ rfl) 2 _ rfl) 3 _ rfl) 4 _ rfl) (by show w.heap.size + 1 + 1 + 1 ≠ w.heap.size + 1 + 1 + 1 + 1; omega) _) (by show w.heap.size + 1 + 1 + 1 ≠ w.heap.size + 1 + 1 + 1 + 1 + 1; omega) _))
  have F7 := (show (((((((m4.setCell ⟨w.heap.size + 1 + 1 + 1, 0, none⟩ (.string ky)).setCell ⟨w.heap.size + 1 + 1 + 1, 1, none⟩ (.string nm)).setCell ⟨w.heap.size + 1 + 1 + 1, 2, none⟩ (.slice (some ad) ts.length c1)).setCell ⟨w.heap.size + 1 + 1 + 1, 3, none⟩ (.int .i64 0)).setCell ⟨w.heap.size + 1 + 1 + 1, 4, none⟩ (.slice (some ⟨gr, 0, none⟩) ys.length c9)).setCell ⟨w.heap.size + 1 + 1 + 1 + 1, 0, none⟩ (.int .i64 ((x.val : Nat) : Int))).setCell ⟨w.heap.size + 1 + 1 + 1 + 1 + 1, 0, none⟩ (.int .i64 0)).heap[w.heap.size + 1 + 1 + 1 + 1]? = some (.cells (#[(.int .i64 ((x.val : Nat) : Int))] : Array Value) 3 (0, 0)) from (blk_far (blk_put (cs := #[.int .i64 0]) (cs' := #[.int .i64 ((x.val : Nat) : Int)]) (blk_far (blk_far (blk_far (blk_far (blk_far X7.out (by show w.heap.size + 1 + 1 + 1 + 1 ≠ w.heap.size + 1 + 1 + 1; omega) _) (by show w.heap.size + 1 + 1 + 1 + 1 ≠ w.heap.size + 1 + 1 + 1; omega) _) (by show w.heap.size + 1 + 1 + 1 + 1 ≠ w.heap.size + 1 + 1 + 1; omega) _) (by show w.heap.size + 1 + 1 + 1 + 1 ≠ w.heap.size + 1 + 1 + 1; omega) _) (by show w.heap.size + 1 + 1 + 1 + 1 ≠ w.heap.size + 1 + 1 + 1; omega) _) 0 _ rfl) (by show w.heap.size + 1 + 1 + 1 + 1 ≠ w.heap.size + 1 + 1 + 1 + 1 + 1; omega) _))
  have F8 := (show (((((((m4.setCell ⟨w.heap.size + 1 + 1 + 1, 0, none⟩ (.string ky)).setCell ⟨w.heap.size + 1 + 1 + 1, 1, none⟩ (.string nm)).setCell ⟨w.heap.size + 1 + 1 + 1, 2, none⟩ (.slice (some ad) ts.length c1)).setCell ⟨w.heap.size + 1 + 1 + 1, 3, none⟩ (.int .i64 0)).setCell ⟨w.heap.size + 1 + 1 + 1, 4, none⟩ (.slice (some ⟨gr, 0, none⟩) ys.length c9)).setCell ⟨w.heap.size + 1 + 1 + 1 + 1, 0, none⟩ (.int .i64 ((x.val : Nat) : Int))).setCell ⟨w.heap.size + 1 + 1 + 1 + 1 + 1, 0, none⟩ (.int .i64 0)).heap[w.heap.size + 1 + 1 + 1 + 1 + 1]? = some (.cells (#[(.int .i64 0)] : Array Value) 29 (0, 0)) from (blk_put (cs := #[.int .i64 0]) (cs' := #[.int .i64 0]) (blk_far (blk_far (blk_far (blk_far (blk_far (blk_far X8.out (by show w.heap.size + 1 + 1 + 1 + 1 + 1 ≠ w.heap.size + 1 + 1 + 1; omega) _) (by show w.heap.size + 1 + 1 + 1 + 1 + 1 ≠ w.heap.size + 1 + 1 + 1; omega) _) (by show w.heap.size + 1 + 1 + 1 + 1 + 1 ≠ w.heap.size + 1 + 1 + 1; omega) _) (by show w.heap.size + 1 + 1 + 1 + 1 + 1 ≠ w.heap.size + 1 + 1 + 1; omega) _) (by show w.heap.size + 1 + 1 + 1 + 1 + 1 ≠ w.heap.size + 1 + 1 + 1; omega) _) (by show w.heap.size + 1 + 1 + 1 + 1 + 1 ≠ w.heap.size + 1 + 1 + 1 + 1; omega) _) 0 _ rfl))
  have r8 := (show Kd.R k51 51 (((((m4.setCell ⟨w.heap.size + 1 + 1 + 1, 0, none⟩ (.string ky)).setCell ⟨w.heap.size + 1 + 1 + 1, 1, none⟩ (.string nm)).setCell ⟨w.heap.size + 1 + 1 + 1, 2, none⟩ (.slice (some ad) ts.length c1)).setCell ⟨w.heap.size + 1 + 1 + 1, 3, none⟩ (.int .i64 0)).setCell ⟨w.heap.size + 1 + 1 + 1, 4, none⟩ (.slice (some ⟨gr, 0, none⟩) ys.length c9)) w.heap.size (fun _ => True) (.slice (some ⟨gr, 0, none⟩) ys.length c9) (ys.set x.val p.1) from (Kd.R_set (Kd.R_set (Kd.R_set (Kd.R_set (Kd.R_set XR.out X6.out (by decide) 0 _) (blk_put (cs := #[(.string (⟨#[]⟩ : ByteArray)), (.string (⟨#[]⟩ : ByteArray)), (.slice none 0 0), (.int .i64 0), (.slice none 0 0)]) (cs' := #[(.string ky), (.string (⟨#[]⟩ : ByteArray)), (.slice none 0 0), (.int .i64 0), (.slice none 0 0)]) X6.out 0 _ rfl) (by decide) 1 _) (blk_put (cs := #[(.string ky), (.string (⟨#[]⟩ : ByteArray)), (.slice none 0 0), (.int .i64 0), (.slice none 0 0)]) (cs' := #[(.string ky), (.string nm), (.slice none 0 0), (.int .i64 0), (.slice none 0 0)]) (blk_put (cs := #[(.string (⟨#[]⟩ : ByteArray)), (.string (⟨#[]⟩ : ByteArray)), (.slice none 0 0), (.int .i64 0), (.slice none 0 0)]) (cs' := #[(.string ky), (.string (⟨#[]⟩ : ByteArray)), (.slice none 0 0), (.int .i64 0), (.slice none 0 0)]) X6.out 0 _ rfl) 1 _ rfl) (by decide) 2 _) (blk_put (cs := #[(.string ky), (.string nm), (.slice none 0 0), (.int .i64 0), (.slice none 0 0)]) (cs' := #[(.string ky), (.string nm), (.slice (some ad) ts.length c1), (.int .i64 0), (.slice none 0 0)]) (blk_put (cs := #[(.string ky), (.string (⟨#[]⟩ : ByteArray)), (.slice none 0 0), (.int .i64 0), (.slice none 0 0)]) (cs' := #[(.string ky), (.string nm), (.slice none 0 0), (.int .i64 0), (.slice none 0 0)]) (blk_put (cs := #[(.string (⟨#[]⟩ : ByteArray)), (.string (⟨#[]⟩ : ByteArray)), (.slice none 0 0), (.int .i64 0), (.slice none 0 0)]) (cs' := #[(.string ky), (.string (⟨#[]⟩ : ByteArray)), (.slice none 0 0), (.int .i64 0), (.slice none 0 0)]) X6.out 0 _ rfl) 1 _ rfl) 2 _ rfl) (by decide) 3 _) (blk_put (cs := #[(.string ky), (.string nm), (.slice (some ad) ts.length c1), (.int .i64 0), (.slice none 0 0)]) (cs' := #[(.string ky), (.string nm), (.slice (some ad) ts.length c1), (.int .i64 0), (.slice none 0 0)]) (blk_put (cs := #[(.string ky), (.string nm), (.slice none 0 0), (.int .i64 0), (.slice none 0 0)]) (cs' := #[(.string ky), (.string nm), (.slice (some ad) ts.length c1), (.int .i64 0), (.slice none 0 0)]) (blk_put (cs := #[(.string ky), (.string (⟨#[]⟩ : ByteArray)), (.slice none 0 0), (.int .i64 0), (.slice none 0 0)]) (cs' := #[(.string ky), (.string nm), (.slice none 0 0), (.int .i64 0), (.slice none 0 0)]) (blk_put (cs := #[(.string (⟨#[]⟩ : ByteArray)), (.string (⟨#[]⟩ : ByteArray)), (.slice none 0 0), (.int .i64 0), (.slice none 0 0)]) (cs' := #[(.string ky), (.string (⟨#[]⟩ : ByteArray)), (.slice none 0 0), (.int .i64 0), (.slice none 0 0)]) X6.out 0 _ rfl) 1 _ rfl) 2 _ rfl) 3 _ rfl) (by decide) 4 _))
  have r9 := (show Kd.R k51 51 ((((((m4.setCell ⟨w.heap.size + 1 + 1 + 1, 0, none⟩ (.string ky)).setCell ⟨w.heap.size + 1 + 1 + 1, 1, none⟩ (.string nm)).setCell ⟨w.heap.size + 1 + 1 + 1, 2, none⟩ (.slice (some ad) ts.length c1)).setCell ⟨w.heap.size + 1 + 1 + 1, 3, none⟩ (.int .i64 0)).setCell ⟨w.heap.size + 1 + 1 + 1, 4, none⟩ (.slice (some ⟨gr, 0, none⟩) ys.length c9)).setCell ⟨w.heap.size + 1 + 1 + 1 + 1, 0, none⟩ (.int .i64 ((x.val : Nat) : Int))) w.heap.size (fun _ => True) (.slice (some ⟨gr, 0, none⟩) ys.length c9) (ys.set x.val p.1) from Kd.R_set r8 (blk_far (blk_far (blk_far (blk_far (blk_far X7.out (by show w.heap.size + 1 + 1 + 1 + 1 ≠ w.heap.size + 1 + 1 + 1; omega) _) (by show w.heap.size + 1 + 1 + 1 + 1 ≠ w.heap.size + 1 + 1 + 1; omega) _) (by show w.heap.size + 1 + 1 + 1 + 1 ≠ w.heap.size + 1 + 1 + 1; omega) _) (by show w.heap.size + 1 + 1 + 1 + 1 ≠ w.heap.size + 1 + 1 + 1; omega) _) (by show w.heap.size + 1 + 1 + 1 + 1 ≠ w.heap.size + 1 + 1 + 1; omega) _) (by decide) 0 _)
  have s0 := (show Kd.R k51 51 (((((((m4.setCell ⟨w.heap.size + 1 + 1 + 1, 0, none⟩ (.string ky)).setCell ⟨w.heap.size + 1 + 1 + 1, 1, none⟩ (.string nm)).setCell ⟨w.heap.size + 1 + 1 + 1, 2, none⟩ (.slice (some ad) ts.length c1)).setCell ⟨w.heap.size + 1 + 1 + 1, 3, none⟩ (.int .i64 0)).setCell ⟨w.heap.size + 1 + 1 + 1, 4, none⟩ (.slice (some ⟨gr, 0, none⟩) ys.length c9)).setCell ⟨w.heap.size + 1 + 1 + 1 + 1, 0, none⟩ (.int .i64 ((x.val : Nat) : Int))).setCell ⟨w.heap.size + 1 + 1 + 1 + 1 + 1, 0, none⟩ (.int .i64 0)) w.heap.size (fun _ => True) (.slice (some ⟨gr, 0, none⟩) ys.length c9) (ys.set x.val p.1) from Kd.R_set r9 (blk_far (blk_far (blk_far (blk_far (blk_far (blk_far X8.out (by show w.heap.size + 1 + 1 + 1 + 1 + 1 ≠ w.heap.size + 1 + 1 + 1; omega) _) (by show w.heap.size + 1 + 1 + 1 + 1 + 1 ≠ w.heap.size + 1 + 1 + 1; omega) _) (by show w.heap.size + 1 + 1 + 1 + 1 + 1 ≠ w.heap.size + 1 + 1 + 1; omega) _) (by show w.heap.size + 1 + 1 + 1 + 1 + 1 ≠ w.heap.size + 1 + 1 + 1; omega) _) (by show w.heap.size + 1 + 1 + 1 + 1 + 1 ≠ w.heap.size + 1 + 1 + 1; omega) _) (by show w.heap.size + 1 + 1 + 1 + 1 + 1 ≠ w.heap.size + 1 + 1 + 1 + 1; omega) _) (by decide) 0 _)
  have FB := (show Below w.heap.size w (((((((m4.setCell ⟨w.heap.size + 1 + 1 + 1, 0, none⟩ (.string ky)).setCell ⟨w.heap.size + 1 + 1 + 1, 1, none⟩ (.string nm)).setCell ⟨w.heap.size + 1 + 1 + 1, 2, none⟩ (.slice (some ad) ts.length c1)).setCell ⟨w.heap.size + 1 + 1 + 1, 3, none⟩ (.int .i64 0)).setCell ⟨w.heap.size + 1 + 1 + 1, 4, none⟩ (.slice (some ⟨gr, 0, none⟩) ys.length c9)).setCell ⟨w.heap.size + 1 + 1 + 1 + 1, 0, none⟩ (.int .i64 ((x.val : Nat) : Int))).setCell ⟨w.heap.size + 1 + 1 + 1 + 1 + 1, 0, none⟩ (.int .i64 0)) from (below_set (below_set (below_set (below_set (below_set (below_set (below_set XB.out (by show w.heap.size ≤ w.heap.size + 1 + 1 + 1; omega)) (by show w.heap.size ≤ w.heap.size + 1 + 1 + 1; omega)) (by show w.heap.size ≤ w.heap.size + 1 + 1 + 1; omega)) (by show w.heap.size ≤ w.heap.size + 1 + 1 + 1; omega)) (by show w.heap.size ≤ w.heap.size + 1 + 1 + 1; omega)) (by show w.heap.size ≤ w.heap.size + 1 + 1 + 1 + 1; omega)) (by show w.heap.size ≤ w.heap.size + 1 + 1 + 1 + 1 + 1; omega)))
  have FK := (show KeepsFrom w5.heap.size W (((((((m4.setCell ⟨w.heap.size + 1 + 1 + 1, 0, none⟩ (.string ky)).setCell ⟨w.heap.size + 1 + 1 + 1, 1, none⟩ (.string nm)).setCell ⟨w.heap.size + 1 + 1 + 1, 2, none⟩ (.slice (some ad) ts.length c1)).setCell ⟨w.heap.size + 1 + 1 + 1, 3, none⟩ (.int .i64 0)).setCell ⟨w.heap.size + 1 + 1 + 1, 4, none⟩ (.slice (some ⟨gr, 0, none⟩) ys.length c9)).setCell ⟨w.heap.size + 1 + 1 + 1 + 1, 0, none⟩ (.int .i64 ((x.val : Nat) : Int))).setCell ⟨w.heap.size + 1 + 1 + 1 + 1 + 1, 0, none⟩ (.int .i64 0)) from (KeepsFrom.trans (KeepsFrom.trans (KeepsFrom.trans (KeepsFrom.trans (KeepsFrom.trans (KeepsFrom.trans (KeepsFrom.trans XK.out ((KeepsOthers.setCell _ _ _).from _)) ((KeepsOthers.setCell _ _ _).from _)) ((KeepsOthers.setCell _ _ _).from _)) ((KeepsOthers.setCell _ _ _).from _)) ((KeepsOthers.setCell _ _ _).from _)) ((KeepsOthers.setCell _ _ _).from _)) ((KeepsOthers.setCell _ _ _).from _)))
  exact ⟨FK, m9, x, p, rfl, n7.out, (by rw [p6.out, p9.out]; exact p5.out), o3.out, rfl, FB, (some ⟨gr, 0, none⟩), c9, F6, F7, F8, s0⟩
 case done =>
  rintro D ls W hD rfl ⟨⟨h3, h4, h5, h6, h7, h8⟩, hB, m5, hN⟩ hK
  have Z6 := am h6
  have Z7 := am h7
  have Z8 := am h8
  have j0 := am hB
  have p3 := am hK
  have hl := leaseL_skip k ts ys now token HG.out (List.finRange ys.length) [] (by rw [uptoF_all] at hN; exact hN)
  have o7 := p4.out
  rw [List.append_nil] at hl
  rw [hl] at o7
  obtain rfl : r = (192, 0, [], 0) := by simpa [leaseL] using o7.symm
  clear h3 h4 h5 h6 h7 h8 hB m5 hN hK hl o7
  obtain ⟨d0, d1, d2, d3, d4⟩ := ce5 Z6.out
  obtain ⟨j3, j4, j5, j6, j7⟩ := z5 Z6.out
  have q0 := ce1 Z7.out
  have j8 := z1 Z7.out
  have u0 := ce1 Z8.out
  have j9 := z1 Z8.out
  gi_wp2
  have E6 := am (show (((((((W.setCell ⟨w.heap.size + 1 + 1 + 1, 0, none⟩ (.string (⟨#[]⟩ : ByteArray))).setCell ⟨w.heap.size + 1 + 1 + 1, 1, none⟩ (.string (⟨#[]⟩ : ByteArray))).setCell ⟨w.heap.size + 1 + 1 + 1, 2, none⟩ (.slice none 0 0)).setCell ⟨w.heap.size + 1 + 1 + 1, 3, none⟩ (.int .i64 0)).setCell ⟨w.heap.size + 1 + 1 + 1, 4, none⟩ (.slice none 0 0)).setCell ⟨w.heap.size + 1 + 1 + 1 + 1, 0, none⟩ (.int .i64 0)).setCell ⟨w.heap.size + 1 + 1 + 1 + 1 + 1, 0, none⟩ (.int .i64 192)).heap[w.heap.size + 1 + 1 + 1]? = some (.cells (#[(.string (⟨#[]⟩ : ByteArray)), (.string (⟨#[]⟩ : ByteArray)), (.slice none 0 0), (.int .i64 0), (.slice none 0 0)] : Array Value) 27 (0, 0)) from (blk_far (blk_far (blk_put (cs := #[(.string (⟨#[]⟩ : ByteArray)), (.string (⟨#[]⟩ : ByteArray)), (.slice none 0 0), (.int .i64 0), (.slice none 0 0)]) (cs' := #[(.string (⟨#[]⟩ : ByteArray)), (.string (⟨#[]⟩ : ByteArray)), (.slice none 0 0), (.int .i64 0), (.slice none 0 0)]) (blk_put (cs := #[(.string (⟨#[]⟩ : ByteArray)), (.string (⟨#[]⟩ : ByteArray)), (.slice none 0 0), (.int .i64 0), (.slice none 0 0)]) (cs' := #[(.string (⟨#[]⟩ : ByteArray)), (.string (⟨#[]⟩ : ByteArray)), (.slice none 0 0), (.int .i64 0), (.slice none 0 0)]) (blk_put (cs := #[(.string (⟨#[]⟩ : ByteArray)), (.string (⟨#[]⟩ : ByteArray)), (.slice none 0 0), (.int .i64 0), (.slice none 0 0)]) (cs' := #[(.string (⟨#[]⟩ : ByteArray)), (.string (⟨#[]⟩ : ByteArray)), (.slice none 0 0), (.int .i64 0), (.slice none 0 0)]) (blk_put (cs := #[(.string (⟨#[]⟩ : ByteArray)), (.string (⟨#[]⟩ : ByteArray)), (.slice none 0 0), (.int .i64 0), (.slice none 0 0)]) (cs' := #[(.string (⟨#[]⟩ : ByteArray)), (.string (⟨#[]⟩ : ByteArray)), (.slice none 0 0), (.int .i64 0), (.slice none 0 0)]) (blk_put (cs := #[(.string (⟨#[]⟩ : ByteArray)), (.string (⟨#[]⟩ : ByteArray)), (.slice none 0 0), (.int .i64 0), (.slice none 0 0)]) (cs' := #[(.string (⟨#[]⟩ : ByteArray)), (.string (⟨#[]⟩ : ByteArray)), (.slice none 0 0), (.int .i64 0), (.slice none 0 0)]) Z6.out 0 _ rfl) 1 _ rfl) 2 _ rfl) 3 _ rfl) 4 _ rfl) (by show w.heap.size + 1 + 1 + 1 ≠ w.heap.size + 1 + 1 + 1 + 1; omega) _) (by show w.heap.size + 1 + 1 + 1 ≠ w.heap.size + 1 + 1 + 1 + 1 + 1; omega) _))
  have E7 := am (show (((((((W.setCell ⟨w.heap.size + 1 + 1 + 1, 0, none⟩ (.string (⟨#[]⟩ : ByteArray))).setCell ⟨w.heap.size + 1 + 1 + 1, 1, none⟩ (.string (⟨#[]⟩ : ByteArray))).setCell ⟨w.heap.size + 1 + 1 + 1, 2, none⟩ (.slice none 0 0)).setCell ⟨w.heap.size + 1 + 1 + 1, 3, none⟩ (.int .i64 0)).setCell ⟨w.heap.size + 1 + 1 + 1, 4, none⟩ (.slice none 0 0)).setCell ⟨w.heap.size + 1 + 1 + 1 + 1, 0, none⟩ (.int .i64 0)).setCell ⟨w.heap.size + 1 + 1 + 1 + 1 + 1, 0, none⟩ (.int .i64 192)).heap[w.heap.size + 1 + 1 + 1 + 1]? = some (.cells (#[(.int .i64 0)] : Array Value) 3 (0, 0)) from (blk_far (blk_put (cs := #[.int .i64 0]) (cs' := #[.int .i64 0]) (blk_far (blk_far (blk_far (blk_far (blk_far Z7.out (by show w.heap.size + 1 + 1 + 1 + 1 ≠ w.heap.size + 1 + 1 + 1; omega) _) (by show w.heap.size + 1 + 1 + 1 + 1 ≠ w.heap.size + 1 + 1 + 1; omega) _) (by show w.heap.size + 1 + 1 + 1 + 1 ≠ w.heap.size + 1 + 1 + 1; omega) _) (by show w.heap.size + 1 + 1 + 1 + 1 ≠ w.heap.size + 1 + 1 + 1; omega) _) (by show w.heap.size + 1 + 1 + 1 + 1 ≠ w.heap.size + 1 + 1 + 1; omega) _) 0 _ rfl) (by show w.heap.size + 1 + 1 + 1 + 1 ≠ w.heap.size + 1 + 1 + 1 + 1 + 1; omega) _))
  have E8 := am (show (((((((W.setCell ⟨w.heap.size + 1 + 1 + 1, 0, none⟩ (.string (⟨#[]⟩ : ByteArray))).setCell ⟨w.heap.size + 1 + 1 + 1, 1, none⟩ (.string (⟨#[]⟩ : ByteArray))).setCell ⟨w.heap.size + 1 + 1 + 1, 2, none⟩ (.slice none 0 0)).setCell ⟨w.heap.size + 1 + 1 + 1, 3, none⟩ (.int .i64 0)).setCell ⟨w.heap.size + 1 + 1 + 1, 4, none⟩ (.slice none 0 0)).setCell ⟨w.heap.size + 1 + 1 + 1 + 1, 0, none⟩ (.int .i64 0)).setCell ⟨w.heap.size + 1 + 1 + 1 + 1 + 1, 0, none⟩ (.int .i64 192)).heap[w.heap.size + 1 + 1 + 1 + 1 + 1]? = some (.cells (#[(.int .i64 192)] : Array Value) 29 (0, 0)) from (blk_put (cs := #[.int .i64 0]) (cs' := #[.int .i64 192]) (blk_far (blk_far (blk_far (blk_far (blk_far (blk_far Z8.out (by show w.heap.size + 1 + 1 + 1 + 1 + 1 ≠ w.heap.size + 1 + 1 + 1; omega) _) (by show w.heap.size + 1 + 1 + 1 + 1 + 1 ≠ w.heap.size + 1 + 1 + 1; omega) _) (by show w.heap.size + 1 + 1 + 1 + 1 + 1 ≠ w.heap.size + 1 + 1 + 1; omega) _) (by show w.heap.size + 1 + 1 + 1 + 1 + 1 ≠ w.heap.size + 1 + 1 + 1; omega) _) (by show w.heap.size + 1 + 1 + 1 + 1 + 1 ≠ w.heap.size + 1 + 1 + 1; omega) _) (by show w.heap.size + 1 + 1 + 1 + 1 + 1 ≠ w.heap.size + 1 + 1 + 1 + 1; omega) _) 0 _ rfl))
  have EB := am (show Below w.heap.size w (((((((W.setCell ⟨w.heap.size + 1 + 1 + 1, 0, none⟩ (.string (⟨#[]⟩ : ByteArray))).setCell ⟨w.heap.size + 1 + 1 + 1, 1, none⟩ (.string (⟨#[]⟩ : ByteArray))).setCell ⟨w.heap.size + 1 + 1 + 1, 2, none⟩ (.slice none 0 0)).setCell ⟨w.heap.size + 1 + 1 + 1, 3, none⟩ (.int .i64 0)).setCell ⟨w.heap.size + 1 + 1 + 1, 4, none⟩ (.slice none 0 0)).setCell ⟨w.heap.size + 1 + 1 + 1 + 1, 0, none⟩ (.int .i64 0)).setCell ⟨w.heap.size + 1 + 1 + 1 + 1 + 1, 0, none⟩ (.int .i64 192)) from (below_set (below_set (below_set (below_set (below_set (below_set (below_set j0.out (by show w.heap.size ≤ w.heap.size + 1 + 1 + 1; omega)) (by show w.heap.size ≤ w.heap.size + 1 + 1 + 1; omega)) (by show w.heap.size ≤ w.heap.size + 1 + 1 + 1; omega)) (by show w.heap.size ≤ w.heap.size + 1 + 1 + 1; omega)) (by show w.heap.size ≤ w.heap.size + 1 + 1 + 1; omega)) (by show w.heap.size ≤ w.heap.size + 1 + 1 + 1 + 1; omega)) (by show w.heap.size ≤ w.heap.size + 1 + 1 + 1 + 1 + 1; omega)))
  have EK := am (show (((((((W.setCell ⟨w.heap.size + 1 + 1 + 1, 0, none⟩ (.string (⟨#[]⟩ : ByteArray))).setCell ⟨w.heap.size + 1 + 1 + 1, 1, none⟩ (.string (⟨#[]⟩ : ByteArray))).setCell ⟨w.heap.size + 1 + 1 + 1, 2, none⟩ (.slice none 0 0)).setCell ⟨w.heap.size + 1 + 1 + 1, 3, none⟩ (.int .i64 0)).setCell ⟨w.heap.size + 1 + 1 + 1, 4, none⟩ (.slice none 0 0)).setCell ⟨w.heap.size + 1 + 1 + 1 + 1, 0, none⟩ (.int .i64 0)).setCell ⟨w.heap.size + 1 + 1 + 1 + 1 + 1, 0, none⟩ (.int .i64 192)).heap[D]? = some (.deferred (some [])) from ((Below.heap_setCell _ _ _ D (by show D ≠ w.heap.size + 1 + 1 + 1 + 1 + 1; have h_ := HS.out; omega)).trans ((Below.heap_setCell _ _ _ D (by show D ≠ w.heap.size + 1 + 1 + 1 + 1; have h_ := HS.out; omega)).trans ((Below.heap_setCell _ _ _ D (by show D ≠ w.heap.size + 1 + 1 + 1; have h_ := HS.out; omega)).trans ((Below.heap_setCell _ _ _ D (by show D ≠ w.heap.size + 1 + 1 + 1; have h_ := HS.out; omega)).trans ((Below.heap_setCell _ _ _ D (by show D ≠ w.heap.size + 1 + 1 + 1; have h_ := HS.out; omega)).trans ((Below.heap_setCell _ _ _ D (by show D ≠ w.heap.size + 1 + 1 + 1; have h_ := HS.out; omega)).trans ((Below.heap_setCell _ _ _ D (by show D ≠ w.heap.size + 1 + 1 + 1; have h_ := HS.out; omega)).trans p3.out))))))))
  clear p3
  generalize (((((((W.setCell ⟨w.heap.size + 1 + 1 + 1, 0, none⟩ (.string (⟨#[]⟩ : ByteArray))).setCell ⟨w.heap.size + 1 + 1 + 1, 1, none⟩ (.string (⟨#[]⟩ : ByteArray))).setCell ⟨w.heap.size + 1 + 1 + 1, 2, none⟩ (.slice none 0 0)).setCell ⟨w.heap.size + 1 + 1 + 1, 3, none⟩ (.int .i64 0)).setCell ⟨w.heap.size + 1 + 1 + 1, 4, none⟩ (.slice none 0 0)).setCell ⟨w.heap.size + 1 + 1 + 1 + 1, 0, none⟩ (.int .i64 0)).setCell ⟨w.heap.size + 1 + 1 + 1 + 1 + 1, 0, none⟩ (.int .i64 192)) = wE at *
  refine ⟨by simp, .inl ⟨_, _, rfl, run_takeDeferred EK.out, ?_⟩⟩
  have P6 : (wE.putObj D (.deferred none)).heap[w.heap.size + 1 + 1 + 1]? = some (.cells (#[(.string (⟨#[]⟩ : ByteArray)), (.string (⟨#[]⟩ : ByteArray)), (.slice none 0 0), (.int .i64 0), (.slice none 0 0)] : Array Value) 27 (0, 0)) := (World.putObj_heap_other (by have h_ := HS.out; omega)).trans E6.out
  have P7 : (wE.putObj D (.deferred none)).heap[w.heap.size + 1 + 1 + 1 + 1]? = some (.cells (#[(.int .i64 0)] : Array Value) 3 (0, 0)) := (World.putObj_heap_other (by have h_ := HS.out; omega)).trans E7.out
  have P8 : (wE.putObj D (.deferred none)).heap[w.heap.size + 1 + 1 + 1 + 1 + 1]? = some (.cells (#[(.int .i64 192)] : Array Value) 29 (0, 0)) := (World.putObj_heap_other (by have h_ := HS.out; omega)).trans E8.out
  exact ⟨_, results_css rfl _ _ (w.heap.size + 1 + 1 + 1) (w.heap.size + 1 + 1 + 1 + 1) (w.heap.size + 1 + 1 + 1 + 1 + 1) 27 (#[(.string (⟨#[]⟩ : ByteArray)), (.string (⟨#[]⟩ : ByteArray)), (.slice none 0 0), (.int .i64 0), (.slice none 0 0)] : Array Value) (0, 0) _ (.int .i64 0) (.int .i64 192) rfl P6 Try.underlying27 rfl (by kernel_rfl) rfl (load3 _ _ _ (bc P7)) rfl (load29 _ _ _ (bc P8)), .inr ⟨by decide, rfl⟩, EB.out.trans (belowK_b (w := w) (Nat.le_refl _) wE D _ _ (by have := HS.out; omega) EK.out rfl rfl)⟩
 case stop =>
  rintro D c m9 W hD ⟨kk, v8, n6⟩ ⟨j1, x, p, e1, e2, e3, e4, rfl, e6, Aq, cq, h3, h4, h5, h6⟩ hK
  have hl := p4.out
  rw [← List.take_append_drop kk (List.finRange ys.length)] at hl
  have r4 : (List.finRange ys.length).take kk = j1 ++ [x] := n6.symm.trans e1
  rw [r4, List.append_assoc, leaseL_skip k ts ys now token HG.out j1 _ e2, List.singleton_append, leaseL, e3, Option.bind_some, if_pos e4] at hl
  obtain rfl : r = (0, 0, ys.set x.val p.1, (x.val : Int)) := (Option.some.inj hl).symm
  have EB := am e6
  have EK := am hK
  have E6 := am h3
  have E7 := am h4
  have E8 := am h5
  have ER := am h6
  clear hK n6 r4 e1 e2 e3 e4 e6 h3 h4 h5 h6 hl
  generalize W = wE at *
  gi_wp2
  refine ⟨by simp, .inl ⟨_, _, rfl, run_takeDeferred EK.out, ?_⟩⟩
  have P6 : (wE.putObj D (.deferred none)).heap[w.heap.size + 1 + 1 + 1]? = some (.cells (#[(.string ky), (.string nm), (.slice A1 ts.length c1), (.int .i64 0), (.slice Aq ys.length cq)] : Array Value) 27 (0, 0)) := (World.putObj_heap_other (by have h_ := HS.out; omega)).trans E6.out
  have P7 : (wE.putObj D (.deferred none)).heap[w.heap.size + 1 + 1 + 1 + 1]? = some (.cells (#[(.int .i64 ((x.val : Nat) : Int))] : Array Value) 3 (0, 0)) := (World.putObj_heap_other (by have h_ := HS.out; omega)).trans E7.out
  have P8 : (wE.putObj D (.deferred none)).heap[w.heap.size + 1 + 1 + 1 + 1 + 1]? = some (.cells (#[(.int .i64 0)] : Array Value) 29 (0, 0)) := (World.putObj_heap_other (by have h_ := HS.out; omega)).trans E8.out
  exact ⟨_, results_css rfl _ _ (w.heap.size + 1 + 1 + 1) (w.heap.size + 1 + 1 + 1 + 1) (w.heap.size + 1 + 1 + 1 + 1 + 1) 27 (#[(.string ky), (.string nm), (.slice A1 ts.length c1), (.int .i64 0), (.slice Aq ys.length cq)] : Array Value) (0, 0) _ (.int .i64 ((x.val : Nat) : Int)) (.int .i64 0) rfl P6 Try.underlying27 rfl (by kernel_rfl) rfl (load3 _ _ _ (bc P7)) rfl (load29 _ _ _ (bc P8)), .inl ⟨rfl, _, rfl, RowOf.own (own_R ER.out (grownBy_putObj' wE D _) (fun r_ e_ => by cases e_; exact ⟨_, EK.out, rfl⟩))⟩, EB.out.trans (belowK_b (w := w) (Nat.le_refl _) wE D _ _ (by have := HS.out; omega) EK.out rfl rfl)⟩
namespace X
theorem Gb.calls (k : Nat) (b0 b1 : ByteArray) (a0 : Nat → Prop) (a8 : Option Addr) (b3 : Nat) (a4 : List S49) (b2 : Int) (a3 : Nat → Prop) (a9 : Option Addr) (b4 : Nat) (a5 : List S51) (a1 a2 : Int) (r1 r2 : ByteArray) (r3 : List S49) (r4 : Int) (r5 : List S51) (r6 r7 : Int) (w : World) (a6 : Kd.V k49 49 w w.heap.size (fun k_ => a0 k_) (.slice a8 a4.length b3) a4) (a7 : Kd.V k51 51 w w.heap.size (fun k_ => a3 k_) (.slice a9 a5.length b4) a5) (h : Gb.f k b0 b1 a4 b2 a5 a1 a2 = some (r1, r2, r3, r4, r5, r6, r7)) :
  Calls Try.prog 23 #[.agg #[.string b0, .string b1, .slice a8 a4.length b3, .int .i64 b2, .slice a9 a5.length b4], .int .i64 a1, .int .i64 a2] w fun e w' => ∃ b5 b6 : Value, e = .returned (.tuple #[.agg #[.string r1, .string r2, b5, .int .i64 r4, b6], .int .i64 r6, .int .i64 r7]) ∧ Kd.V k49 49 w' w.heap.size (fun k_ => ((a0 k_ ∨ a3 k_) ∨ w.heap.size ≤ k_)) b5 r3 ∧ Kd.V k51 51 w' w.heap.size (fun k_ => ((a0 k_ ∨ a3 k_) ∨ w.heap.size ≤ k_)) b6 r5 ∧ Below w.heap.size w w' := by
 obtain ⟨p, hp, h⟩ := Option.bind_eq_some_iff.1 h
 obtain ⟨_, b8, b7⟩ := Kd.V_reads' a6
 refine (lease_calls k b0 b1 a8 b3 a4 b2 a9 b4 a5 a1 a2 p w b7 b8 (Kd.V_reads' a7).2.2 hp).mono ?_
 rintro e w' ⟨h1, hb⟩
 have hr := Option.some.inj h
 rcases h1 with ⟨h0, v, rfl, ho⟩ | ⟨h0, rfl⟩
 ·
  rw [if_pos h0] at hr
  cases hr
  exact ⟨_, v, rfl, Kd.V_mono (Kd.V_below a6 hb) (fun k hk => .inl (.inl hk)), Kd.V_mono (ho.V hb a7) (fun k hk => hk.imp Or.inr id), hb⟩
 rw [if_neg h0] at hr
 cases hr
 exact ⟨_, _, rfl, Kd.V_nil _ _ _ _ _, Kd.V_nil _ _ _ _ _, hb⟩
end X
end Go.Proofs.Ytabmkighhmchmaa
namespace Go.Proofs.Ytabmkighhmchmaa.X
open Go.RowKit Go.Proofs.YtabmkighhmchmaaW.PrintWords Go.Proofs.YtabmkighhmchmaaW.PrintLast Go.Proofs.YtabmkighhmchmaaW.PrintMore Go.Proofs.YtabmkighhmchmaaW.Sq
attribute [local go_sem] max2_int min2_int max_two min_two max_three min_three max_four min_four
set_option linter.unusedVariables false
set_option linter.unusedSimpArgs false
mutual
def Fd.j0 : Nat → Int → Bool → ByteArray → List (S49) → Option (Bool)
 | 0, _, _, _, _ => none
 | k + 1, x3, a2, a1, a0 => if a2 = true then (some false) else (Fd.l0 k x3 a0 (a0.length : Int) 0)
def Fd.l0 : Nat → Int → List (S49) → Int → Int → Option (Bool)
 | 0, _, _, _, _ => none
 | k + 1, x3, a1, a2, a0 => if a0 < a2 then (if 0 ≤ a0 then (if a0 < (a1.length : Int) then (Fd.l1 k x3 a1 a2 a0 ((rd_T49 a1 a0).f0) (((rd_T49 a1 a0).f0).length : Int) 0 ((rd_T49 a1 a0).f0) ((rd_T49 a1 a0).f1) ((rd_T49 a1 a0).f2) ((rd_T49 a1 a0).f3)) else (none)) else (none)) else (some true)
def Fd.l1 : Nat → Int → List (S49) → Int → Int → List Int → Int → Int → List Int → Int → Int → Int → Option (Bool)
 | 0, _, _, _, _, _, _, _, _, _, _, _ => none
 | k + 1, x3, a6, a7, a8, a5, a9, a4, a0, a1, a2, a3 => if a4 < a9 then (if 0 ≤ a4 then (if a4 < (a5.length : Int) then (if (rd a5 a4) < 0 then (some false) else (if (rd a5 a4) ≥ x3 then (some false) else (if a4 > 0 then (if 0 ≤ (wrap64 (a4 - 1)) then (if (wrap64 (a4 - 1)) < (a0.length : Int) then (if (rd a5 a4) ≤ (rd a0 (wrap64 (a4 - 1))) then (some false) else (Fd.l1 k x3 a6 a7 a8 a5 a9 (wrap64 (a4 + 1)) a0 a1 a2 a3)) else (none)) else (none)) else (Fd.l1 k x3 a6 a7 a8 a5 a9 (wrap64 (a4 + 1)) a0 a1 a2 a3)))) else (none)) else (none)) else (if a1 < 1 then (some false) else (if a1 > 8 then (some false) else (if a2 < 0 then (some false) else (if a2 > 1048576 then (some false) else (if a3 < 1 then (some false) else (if a3 > 1048576 then (some false) else (Fd.l0 k x3 a6 a7 (wrap64 (a8 + 1)))))))))
end
def Fd.f (k : Nat) (a1 : ByteArray) (a0 : List (S49)) : Option (Bool) := if (a0.length : Int) < 1 then (Fd.j0 k (a0.length : Int) true a1 a0) else (if (a1.size : Int) < 1 then (Fd.j0 k (a0.length : Int) true a1 a0) else (Fd.j0 k (a0.length : Int) (decide ((a1.size : Int) > 16)) a1 a0))
set_option maxHeartbeats 8000000 in
set_option maxRecDepth 100000 in
theorem Fd.calls (k : Nat) (b1 : ByteArray) (d4 : Option Addr) (d3 : Nat) (a1 : List (S49)) (r : Bool) (w : World) (e3 : Kd.C k49 w d4 a1.length a1) (e2 : a1.length ≤ d3) (h : Fd.f k b1 a1 = some r) :
  Calls Try.prog 31 #[.agg #[.string b1, .slice d4 a1.length d3]] w fun e w' => e = .returned (.bool r) ∧ Below w.heap.size w w' := by
 have n1 := Try.underlying24
 have n2 := Try.underlying49
 have g7 := am e3
 have l5 := am e2
 clear e3 e2
 have HB := am (Below.refl w.heap.size w)
 unfold Fd.f at h
 have H := h
 clear h
 have k1 := am H
 clear H
 go_enter Try.func31, Try.ntmps31
 go_upto_region 2 with (first | ((with_reducible refine gD 1 ?_); (try (refine gate_guard (by rfl) ?_; dsimp only)); refine bz 1 #[.string b1, .slice d4 a1.length d3] 24 HB ?_; clear HB; intro d7 hg w3 hb a5 l3 HB; clear hb hg; have b8 := y2 a5))
 (try simp only [Act.put, List.setIfInBounds_toArray, List.set_cons_zero, List.set_cons_succ])
 go_cut [24] (fun n3 wc => ∃ (kq : Nat) (d2 : Bool), n3 = .bool d2 ∧ Aside0 (Fd.j0 kq (a1.length : Int) d2 b1 a1 = some r) ∧ Aside0 (kq ≤ k) ∧ Aside0 (wc.heap[d7]? = some (.cells #[.string b1, (.slice d4 a1.length d3)] 24 (0, 0))) ∧ Aside0 (Below w.heap.size w wc))
 case first =>
  have H := k1.out
  clear k1
  by_cases c5 : (a1.length : Int) < 1
  ·
   rw [if_pos c5] at H
   have d6 := decide_eq_true c5
   have k4 : decide (a1.length < 1) = true := decide_eq_true (by omega)
   clear c5
   (first | rw [d6] | (simp only [i64_w, i32_w]; rw [d6]) | skip)
   have H' := am H
   clear H
   go_wp2
   go_meet
   case rel => exact ⟨_, (true), el, H', ol, ⟨pk a5.out⟩, ⟨pB HB.out⟩⟩
  rw [if_neg c5] at H
  have d6 := decide_eq_false c5
  have k4 : decide (a1.length < 1) = false := decide_eq_false (by omega)
  clear c5
  (first | rw [d6] | (simp only [i64_w, i32_w]; rw [d6]) | skip)
  by_cases c6 : (b1.size : Int) < 1
  ·
   rw [if_pos c6] at H
   have k5 := decide_eq_true c6
   have k6 : decide (b1.size < 1) = true := decide_eq_true (by omega)
   clear c6
   have H' := am H
   clear H
   have k8 := y2 a5
   go_wp2
   go_meet
   case rel => exact ⟨_, (true), el, H', ol, ⟨pk a5.out⟩, ⟨pB HB.out⟩⟩
  rw [if_neg c6] at H
  have k5 := decide_eq_false c6
  have k6 : decide (b1.size < 1) = false := decide_eq_false (by omega)
  clear c6
  have H' := am H
  clear H
  have k9 := y2 a5
  go_wp2
  go_meet
  case rel => exact ⟨_, (decide ((b1.size : Int) > 16)), el, H', ol, ⟨pk a5.out⟩, ⟨pB HB.out⟩⟩
 case rest =>
  clear k1
  try clear b8
  obtain ⟨kq, d2, rfl, HA, e8, a5, HB⟩ := hcut
  cases kq with
  | zero => exact absurd HA.out (by simp [Fd.j0])
  | succ n0 =>
   have H := HA.out
   clear HA
   simp only [Fd.j0] at H
   by_cases c9 : d2 = true
   ·
    subst c9
    rw [if_pos rfl] at H
    try dsimp only at H
    obtain rfl := Option.some.inj H
    go_wp2
    go_ret
    exact ⟨er, pB HB.out⟩
   replace c9 := Bool.eq_false_iff.mpr c9
   subst c9
   rw [if_neg (show ¬ (false = true) by decide)] at H
   try dsimp only at H
   have H' := am H
   clear H
   have c8 := y2 a5
   go_wp2
   go_loopg [28] n0 (fun kq n4 w' => ∃ (a0 : Int), n4 = .int .i64 a0 ∧ Aside0 (Fd.l0 kq (a1.length : Int) a1 (a1.length : Int) a0 = some r) ∧ Aside0 (kq ≤ n0) ∧ Aside0 (w'.heap[d7]? = some (.cells #[.string b1, (.slice d4 a1.length d3)] 24 (0, 0))) ∧ Aside0 (Below w.heap.size w w'))
   case atStart => exact ⟨(0), el, H', ⟨Nat.le_refl _⟩, ⟨pk a5.out⟩, ⟨pB HB.out⟩⟩
   case round =>
    clear H'
    try clear c9
    try clear c8
    try clear b8
    try clear a5; try clear HB
    obtain ⟨a0, rfl, HA, e9, a5, HB⟩ := hrel
    cases gk with
    | zero => exact absurd HA.out (by simp [Fd.l0])
    | succ k2 =>
     have H := HA.out
     clear HA
     simp only [Fd.l0] at H
     by_cases e6 : a0 < (a1.length : Int)
     ·
      rw [if_pos e6] at H
      have e1 := decide_eq_true e6
      clear e6
      by_cases g9 : 0 ≤ a0
      ·
       rw [if_pos g9] at H
       have h0 := decide_eq_true g9
       clear g9
       by_cases h2 : a0 < (a1.length : Int)
       ·
        rw [if_pos h2] at H
        have h3 := decide_eq_true h2
        clear h2
        have H' := am H
        clear H
        have d9 : 0 ≤ (a0 : Int) := od
        have e0 : a0 < (a1.length : Int) := od
        obtain ⟨g8, e4, e5, k7, b4, b5, b6, b7, d1, d0⟩ := at_T49 g7.out a0 d9 e0
        cases k7
        replace b4 := bX HB b4
        replace b5 := bX HB b5
        replace b6 := bX HB b6
        replace b7 := bX HB b7
        have a7 := am d0
        have i6 := am d1
        clear d0 d1
        replace d9 := eq_true d9
        replace e0 := eq_true e0
        go_wp2_with (first | ((with_reducible refine gD 5 ?_); (try (refine gate_guard (by rfl) ?_; dsimp only)); refine bz 5 #[.slice none 0 0, .int .i64 0, .int .i64 0, .int .i64 0] 49 HB ?_; clear HB; intro i5 hg n6 hb a6 l4 HB; have f5 := nL hg a5; have a3 := nG hg a5; replace a5 := kB a5 hb; clear hb hg; have m0 := nn a3; have d8 := y4 a6))
        go_loopg [35] k2 (fun kq n5 w' => ∃ (a2 : Int), n5 = .int .i64 a2 ∧ Aside0 (Fd.l1 kq (a1.length : Int) a1 (a1.length : Int) a0 ((rd_T49 a1 a0).f0) (((rd_T49 a1 a0).f0).length : Int) a2 ((rd_T49 a1 a0).f0) ((rd_T49 a1 a0).f1) ((rd_T49 a1 a0).f2) ((rd_T49 a1 a0).f3) = some r) ∧ Aside0 (kq ≤ k2) ∧ Aside0 (w'.heap[d7]? = some (.cells #[.string b1, (.slice (some g8) a1.length d3)] 24 (0, 0))) ∧ Aside0 (w'.heap[i5]? = some (.cells #[(.slice e4 ((rd_T49 a1 a0).f0).length e5), .int .i64 ((rd_T49 a1 a0).f1), .int .i64 ((rd_T49 a1 a0).f2), .int .i64 ((rd_T49 a1 a0).f3)] 49 (0, 0))) ∧ Aside0 (Below w.heap.size w w'))
        case atStart => exact ⟨(0), el, H', ⟨Nat.le_refl _⟩, ⟨pk a5.out⟩, ⟨pP a6.out⟩, ⟨pB HB.out⟩⟩
        case round =>
         clear H'
         try clear c9
         try clear e6
         try clear e1
         try clear g9
         try clear h0
         try clear h2
         try clear h3
         try clear c8
         try clear d8
         try clear b8
         try clear b4
         try clear b5
         try clear b6
         try clear b7
         try clear d9
         try clear e0
         try clear a5; try clear a6; try clear HB
         obtain ⟨a2, rfl, HA, f4, a5, a6, HB⟩ := hrel
         cases gk with
         | zero => exact absurd HA.out (by simp [Fd.l1])
         | succ k3 =>
          have H := HA.out
          clear HA
          simp only [Fd.l1] at H
          by_cases f6 : a2 < (((rd_T49 a1 a0).f0).length : Int)
          ·
           rw [if_pos f6] at H
           have h4 := decide_eq_true f6
           clear f6
           by_cases i7 : 0 ≤ a2
           ·
            rw [if_pos i7] at H
            have l6 := decide_eq_true i7
            clear i7
            by_cases i8 : a2 < (((rd_T49 a1 a0).f0).length : Int)
            ·
             rw [if_pos i8] at H
             have l7 := decide_eq_true i8
             clear i8
             by_cases f7 : (rd ((rd_T49 a1 a0).f0) a2) < 0
             ·
              rw [if_pos f7] at H
              have h5 := decide_eq_true f7
              clear f7
              obtain rfl := Option.some.inj H
              have a8 : 0 ≤ (a2 : Int) := od
              have a9 : a2 < (((rd_T49 a1 a0).f0).length : Int) := od
              obtain ⟨b2, b3, a4⟩ := Kd.at_int a7.out a2 a8 a9
              cases b3
              replace a4 := bX HB a4
              replace a8 := eq_true a8
              replace a9 := eq_true a9
              go_wp2
              go_ret
              exact ⟨er, pB HB.out⟩
             rw [if_neg f7] at H
             have h5 := decide_eq_false f7
             clear f7
             by_cases f8 : (rd ((rd_T49 a1 a0).f0) a2) ≥ (a1.length : Int)
             ·
              rw [if_pos f8] at H
              have h6 := decide_eq_true f8
              clear f8
              obtain rfl := Option.some.inj H
              have a8 : 0 ≤ (a2 : Int) := od
              have a9 : a2 < (((rd_T49 a1 a0).f0).length : Int) := od
              obtain ⟨b2, b3, a4⟩ := Kd.at_int a7.out a2 a8 a9
              cases b3
              replace a4 := bX HB a4
              replace a8 := eq_true a8
              replace a9 := eq_true a9
              go_wp2
              go_ret
              exact ⟨er, pB HB.out⟩
             rw [if_neg f8] at H
             have h6 := decide_eq_false f8
             clear f8
             by_cases f9 : a2 > 0
             ·
              rw [if_pos f9] at H
              have h7 := decide_eq_true f9
              clear f9
              obtain ⟨ji23, hji23⟩ : ∃ j_ : Int, (wrap64 (a2 - 1)) = j_ := ⟨_, rfl⟩
              replace H : (if 0 ≤ (ji23) then (if (ji23) < (((rd_T49 a1 a0).f0).length : Int) then (if (rd ((rd_T49 a1 a0).f0) a2) ≤ (rd ((rd_T49 a1 a0).f0) (ji23)) then (some false) else (Fd.l1 k3 (a1.length : Int) a1 (a1.length : Int) a0 ((rd_T49 a1 a0).f0) (((rd_T49 a1 a0).f0).length : Int) (wrap64 (a2 + 1)) ((rd_T49 a1 a0).f0) ((rd_T49 a1 a0).f1) ((rd_T49 a1 a0).f2) ((rd_T49 a1 a0).f3))) else (none)) else (none)) = some r := by first | (rw [hji23] at H; exact H) | (simp only [hji23] at H ⊢; exact H)
              have l2 : (IntKind.i64.wrap (a2 - 1)) = ji23 := (i64_w _).trans hji23
              by_cases i9 : 0 ≤ (ji23)
              ·
               rw [if_pos i9] at H
               have l8 := decide_eq_true i9
               clear i9
               by_cases j1 : (ji23) < (((rd_T49 a1 a0).f0).length : Int)
               ·
                rw [if_pos j1] at H
                have l9 := decide_eq_true j1
                clear j1
                by_cases g0 : (rd ((rd_T49 a1 a0).f0) a2) ≤ (rd ((rd_T49 a1 a0).f0) (ji23))
                ·
                 rw [if_pos g0] at H
                 have h8 := decide_eq_true g0
                 clear g0
                 obtain rfl := Option.some.inj H
                 have a8 : 0 ≤ (a2 : Int) := od
                 have a9 : a2 < (((rd_T49 a1 a0).f0).length : Int) := od
                 obtain ⟨b2, b3, a4⟩ := Kd.at_int a7.out a2 a8 a9
                 cases b3
                 replace a4 := bX HB a4
                 replace a8 := eq_true a8
                 replace a9 := eq_true a9
                 have m1 := nn a3
                 have j2 := y4 a6
                 have b9 : 0 ≤ ((ji23) : Int) := od
                 have c7 : (ji23) < (((rd_T49 a1 a0).f0).length : Int) := od
                 obtain ⟨d5, e7, b0⟩ := Kd.at_int a7.out (ji23) b9 c7
                 obtain rfl : b2 = d5 := (by injection e7)
                 replace b0 := bX HB b0
                 replace b9 := eq_true b9
                 replace c7 := eq_true c7
                 go_wp2
                 go_ret
                 exact ⟨by first | rfl | (simp [errW_none, errW_some] <;> rfl) | (simp only [← hji23]; first | rfl | (simp [errW_none, errW_some] <;> rfl)) | (simp [*, errW_none, errW_some] <;> rfl), pB HB.out⟩
                rw [if_neg g0] at H
                have h8 := decide_eq_false g0
                clear g0
                have H' := am H
                clear H
                have a8 : 0 ≤ (a2 : Int) := od
                have a9 : a2 < (((rd_T49 a1 a0).f0).length : Int) := od
                obtain ⟨b2, b3, a4⟩ := Kd.at_int a7.out a2 a8 a9
                cases b3
                replace a4 := bX HB a4
                replace a8 := eq_true a8
                replace a9 := eq_true a9
                have m2 := nn a3
                have j3 := y4 a6
                have b9 : 0 ≤ ((ji23) : Int) := od
                have c7 : (ji23) < (((rd_T49 a1 a0).f0).length : Int) := od
                obtain ⟨d5, e7, b0⟩ := Kd.at_int a7.out (ji23) b9 c7
                obtain rfl : b2 = d5 := (by injection e7)
                replace b0 := bX HB b0
                replace b9 := eq_true b9
                replace c7 := eq_true c7
                go_wp2
                go_roundg k3
                case measure => have := e8.out; have := e9.out; have := f4.out; omega
                case rel => exact ⟨(wrap64 (a2 + 1)), el, H', ⟨by have := e8.out; have := e9.out; have := f4.out; omega⟩, ⟨pk a5.out⟩, ⟨pk a6.out⟩, ⟨pB HB.out⟩⟩
               rw [if_neg j1] at H
               exact absurd H (by simp)
              rw [if_neg i9] at H
              exact absurd H (by simp)
             rw [if_neg f9] at H
             have h7 := decide_eq_false f9
             clear f9
             have H' := am H
             clear H
             have a8 : 0 ≤ (a2 : Int) := od
             have a9 : a2 < (((rd_T49 a1 a0).f0).length : Int) := od
             obtain ⟨b2, b3, a4⟩ := Kd.at_int a7.out a2 a8 a9
             cases b3
             replace a4 := bX HB a4
             replace a8 := eq_true a8
             replace a9 := eq_true a9
             go_wp2
             go_roundg k3
             case measure => have := e8.out; have := e9.out; have := f4.out; omega
             case rel => exact ⟨(wrap64 (a2 + 1)), el, H', ⟨by have := e8.out; have := e9.out; have := f4.out; omega⟩, ⟨pk a5.out⟩, ⟨pk a6.out⟩, ⟨pB HB.out⟩⟩
            rw [if_neg i8] at H
            exact absurd H (by simp)
           rw [if_neg i7] at H
           exact absurd H (by simp)
          rw [if_neg f6] at H
          have h4 := decide_eq_false f6
          clear f6
          by_cases g1 : ((rd_T49 a1 a0).f1) < 1
          ·
           rw [if_pos g1] at H
           have h9 := decide_eq_true g1
           clear g1
           obtain rfl := Option.some.inj H
           have m3 := nn a3
           have j4 := y4 a6
           go_wp2
           go_ret
           exact ⟨er, pB HB.out⟩
          rw [if_neg g1] at H
          have h9 := decide_eq_false g1
          clear g1
          by_cases g2 : ((rd_T49 a1 a0).f1) > 8
          ·
           rw [if_pos g2] at H
           have i0 := decide_eq_true g2
           clear g2
           obtain rfl := Option.some.inj H
           have m4 := nn a3
           have j5 := y4 a6
           go_wp2
           go_ret
           exact ⟨er, pB HB.out⟩
          rw [if_neg g2] at H
          have i0 := decide_eq_false g2
          clear g2
          by_cases g3 : ((rd_T49 a1 a0).f2) < 0
          ·
           rw [if_pos g3] at H
           have i1 := decide_eq_true g3
           clear g3
           obtain rfl := Option.some.inj H
           have m5 := nn a3
           have j6 := y4 a6
           go_wp2
           go_ret
           exact ⟨er, pB HB.out⟩
          rw [if_neg g3] at H
          have i1 := decide_eq_false g3
          clear g3
          by_cases g4 : ((rd_T49 a1 a0).f2) > 1048576
          ·
           rw [if_pos g4] at H
           have i2 := decide_eq_true g4
           clear g4
           obtain rfl := Option.some.inj H
           have m6 := nn a3
           have j7 := y4 a6
           go_wp2
           go_ret
           exact ⟨er, pB HB.out⟩
          rw [if_neg g4] at H
          have i2 := decide_eq_false g4
          clear g4
          by_cases g5 : ((rd_T49 a1 a0).f3) < 1
          ·
           rw [if_pos g5] at H
           have i3 := decide_eq_true g5
           clear g5
           obtain rfl := Option.some.inj H
           have m7 := nn a3
           have j8 := y4 a6
           go_wp2
           go_ret
           exact ⟨er, pB HB.out⟩
          rw [if_neg g5] at H
          have i3 := decide_eq_false g5
          clear g5
          by_cases g6 : ((rd_T49 a1 a0).f3) > 1048576
          ·
           rw [if_pos g6] at H
           have i4 := decide_eq_true g6
           clear g6
           obtain rfl := Option.some.inj H
           have m8 := nn a3
           have j9 := y4 a6
           go_wp2
           go_ret
           exact ⟨er, pB HB.out⟩
          rw [if_neg g6] at H
          have i4 := decide_eq_false g6
          clear g6
          have H' := am H
          clear H
          have m9 := nn a3
          have k0 := y4 a6
          go_wp2
          go_roundg k3
          case measure => have := e8.out; have := e9.out; have := f4.out; omega
          case rel => exact ⟨(wrap64 (a0 + 1)), el, H', ⟨by have := e8.out; have := e9.out; have := f4.out; omega⟩, ⟨pk a5.out⟩, ⟨pB HB.out⟩⟩
       rw [if_neg h2] at H
       exact absurd H (by simp)
      rw [if_neg g9] at H
      exact absurd H (by simp)
     rw [if_neg e6] at H
     have e1 := decide_eq_false e6
     clear e6
     obtain rfl := Option.some.inj H
     go_wp2
     go_ret
     exact ⟨er, pB HB.out⟩
end Go.Proofs.Ytabmkighhmchmaa.X
