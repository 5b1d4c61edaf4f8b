/- Words and walks for the law RunSettles, joined and made small by a program of mine. -/
import Derived.Test.YtabmkighhmchmaaG4
import Derived.LoopTactic
import Derived.Outline
import Derived.Test.YtabmkighhmchmaaG2
import Derived.Test.YtabmkighhmchmaaG6
namespace Go.Proofs.Ytabmkighhmchmaa
open Go.RowKit Go.Shelf Go.YW.PrintWords Go.YW.PrintLast Go.YW.PrintMore Go.YW.Sq
open X (S49 S51 k49 k51 q0e q0c q1q q1u z51)
set_option linter.unusedVariables false
set_option linter.unusedSimpArgs false
set_option maxHeartbeats 1000000 in
theorem tok_test (g : Nat) (a0 : Int) (s : S51) (w : World) (hg : w.heap[g]? = some (.cells #[.int .i64 a0] 3 (0, 0))) :
  Calls Try.prog 62 #[.agg #[(.int .i64 s.f0), (.int .i64 s.f1), (.int .i64 s.f2), (.int .i64 s.f3), (.string s.f4)], .pointer (some ⟨g, 0, none⟩)] w fun e w' => e = .returned (.bool (s.f3 == a0)) ∧ Below w.heap.size w w' := by
 have a5 := Try.underlying51
 have HB := am (Below.refl w.heap.size w)
 have BG := am hg
 clear hg
 go_enter Try.func62, Try.ntmps62
 go_wp2_with ((with_reducible refine gD 2 ?_); refine bz 2 (#[(.int .i64 s.f0), (.int .i64 s.f1), (.int .i64 s.f2), (.int .i64 s.f3), (.string s.f4)] : Array Value) 51 HB ?_; clear HB; intro g2 hg a3 hb B2 a4 HB; have a1 := nP hg BG; have a2 := am a1.out.symm; replace BG := kP BG hb; clear hb hg; obtain ⟨b0, b1, b2, b3, b4⟩ := ce5 B2.out; have k0 : a3.cell? ⟨g, 0, none⟩ = some (.int .i64 a0) := bc BG.out)
 go_ret
 exact ⟨rfl, HB.out⟩
set_option maxHeartbeats 1000000 in
theorem tok_idx (g : Nat) (a0 : Int) (A0 : Option Addr) (c0 : Nat) (l0 : List S51) (w : World) (a4 : Kd.C k51 w A0 l0.length l0) (hl : l0.length ≤ 1000000) (hg : w.heap[g]? = some (.cells #[.int .i64 a0] 3 (0, 0))) :
  Calls Try.prog 86 #[.slice A0 l0.length c0, .func (.func 62) #[] #[.pointer (some ⟨g, 0, none⟩)]] w fun e w' => (∃ i : Int, e = .returned (.int .i64 i) ∧ decide (i ≥ 0) = l0.any fun s => s.f3 == a0) ∧ Below w.heap.size w w' := by
 have b1 := Try.underlying51
 have HR := am a4
 have HL := am hl
 obtain ⟨r, hr⟩ : ∃ r, (l0.any fun s => s.f3 == a0) = r := ⟨_, rfl⟩
 rw [hr]
 have HH := am hr
 have BG := am hg
 clear hl hr a4 hg
 obtain ⟨n, hn⟩ : ∃ n : Nat, l0.length = n := ⟨_, rfl⟩
 rw [hn] at HR HL ⊢
 have HN := am hn
 clear hn
 go_enter Try.func86, Try.ntmps86
 go_wp2
 go_loopw [8] (fun i wr => ∃ q : Nat, q ≤ n ∧ i = .int .i64 q ∧ q0f (((l0.drop q).any fun s => s.f3 == a0) = r) ∧ q0f (Below w.heap.size w wr)) (fun i _ => n - (intOf i).toNat)
 case atStart => exact ⟨0, Nat.zero_le _, rfl, HH, ⟨Below.refl _ _⟩⟩
 case round =>
  obtain ⟨q, hk, rfl, HA, HB⟩ := hrel
  by_cases b2 : q < n
  ·
   have hn := HN.out
   have b0 := HL.out
   obtain ⟨ad, rfl, a5, a6, a7, a8, a9⟩ := q1u (Kd.C_below HR.out HB.out) (q : Int) (by omega) (by omega)
   have et : q0c l0 (q : Int) = l0[q]'(by omega) := by simp [q0c, List.getD_eq_getElem?_getD, List.getElem?_eq_getElem (show q < l0.length by omega)]
   have ha := HA.out
   rw [List.drop_eq_getElem_cons (by omega), List.any_cons] at ha
   rw [et] at a5 a6 a7 a8 a9
   have BW := am (q0b BG.out HB.out)
   clear et
   generalize l0[q]'(by omega) = s at *
   rw [Int.toNat_natCast] at a5 a6 a7 a8 a9
   have a2 := am ha
   clear ha HA hn
   have HT := am (fun (W : World) hW => tok_test g a0 s W hW)
   cases hb : (s.f3 == a0)
   ·
    have a1 := am hb
    clear hb
    have HA := am (show ((l0.drop (q + 1)).any fun s => s.f3 == a0) = r from by have h_ := a2.out; rw [a1.out, Bool.false_or] at h_; exact h_)
    clear a2
    go_wp2_with (go_at_call 62; refine (HT.out _ (by (with_reducible repeat (first | refine q0r ?_ _ | refine q0g ?_ | refine q0h ?_ _)); exact BW.out)).mono ?_; rintro e w1 ⟨rfl, hb⟩; rw [a1.out]; have a3 := am (q0j (by repeat (first | (with_reducible first | exact HB.out | apply q0d | apply q0m | apply q0a) | exact HB.out)) hb); clear hb)
    go_roundw
    case rel => exact ⟨q + 1, by omega, by go_num, HA, a3⟩
    case measure => simp [intOf]; omega
   have a1 := am hb
   clear hb
   obtain rfl : true = r := by have h_ := a2.out; rw [a1.out, Bool.true_or] at h_; exact h_
   clear a2
   go_wp2_with (go_at_call 62; refine (HT.out _ (by (with_reducible repeat (first | refine q0r ?_ _ | refine q0g ?_ | refine q0h ?_ _)); exact BW.out)).mono ?_; rintro e w1 ⟨rfl, hb⟩; rw [a1.out]; have a3 := am (q0j (by repeat (first | (with_reducible first | exact HB.out | apply q0d | apply q0m | apply q0a) | exact HB.out)) hb); clear hb)
   go_ret
   exact ⟨⟨_, rfl, by simp⟩, a3.out⟩
  obtain rfl : q = n := by omega
  have ha := HA.out
  rw [List.drop_eq_nil_of_le (by rw [HN.out]; omega), List.any_nil] at ha
  subst ha
  clear HA
  go_wp2
  go_ret
  exact ⟨⟨_, rfl, by simp⟩, HB.out⟩
theorem tok_calls (g : Nat) (a0 : Int) (A0 : Option Addr) (c0 : Nat) (l0 : List S51) (w : World) (a1 : Kd.C k51 w A0 l0.length l0) (hl : l0.length ≤ 1000000) (hg : w.heap[g]? = some (.cells #[.int .i64 a0] 3 (0, 0))) :
  Calls Try.prog 61 #[.slice A0 l0.length c0, .func (.func 62) #[] #[.pointer (some ⟨g, 0, none⟩)]] w fun e w' => e = .returned (.bool (!noTok a0 l0)) ∧ Below w.heap.size w w' := by
 have K := am (tok_idx g a0 A0 c0 l0 w a1 hl hg)
 clear a1 hg
 unfold noTok
 rw [Bool.not_not]
 go_enter Try.func61, Try.ntmps61
 go_wp2_with (go_at_call 86; refine K.out.mono ?_; rintro e w1 ⟨⟨i, rfl, hi⟩, hb⟩; have HI := am hi; have a2 := am hb; clear hb hi)
 go_ret
 exact ⟨by rw [← HI.out]; rfl, a2.out⟩
end Go.Proofs.Ytabmkighhmchmaa
namespace Go.Proofs.Ytabmkighhmchmaa
open Go.RowKit Go.Shelf Go.YW.PrintWords Go.YW.PrintLast Go.YW.PrintMore Go.YW.Sq
open X (S49 S51 k49 k51 q0e q0c q1q q1u z51)
set_option linter.unusedVariables false
set_option linter.unusedSimpArgs false
attribute [local go_sem] Oper.semAt_some
def leasePost (ky nm : ByteArray) (A1 : Option Addr) (c1 : Nat) (ts : List S49) (A2 : Option Addr) (c2 : Nat) (xs : List S51) (w : World) (p : Int × Int × List S51 × Int) (e : Ending) (w' : World) : Prop :=
 ((p.1 = 0 ∧ ∃ v, e = .returned (.tuple #[.agg #[(.string ky), (.string nm), (.slice A1 ts.length c1), (.int .i64 p.2.1), v], .int .i64 p.2.2.2, .int .i64 0]) ∧ q1c w w' A2 c2 xs v p.2.2.1) ∨
  (p.1 ≠ 0 ∧ e = .returned (.tuple #[zeroRun, .int .i64 0, .int .i64 p.1]))) ∧ Below w.heap.size w w'
theorem q3c {P : Program} {fn : Func} {p p' p2 : Tmp} {ty ty' ty2 : TypeId} (h : fn.results = #[.cell p ty, .cell p' ty', .cell p2 ty2]) (tmps : Array Value) (w : World) (g g' g2 : Nat) (t : TypeId) (cs : Array Value) (fr : Nat × Nat) (d : TypeDesc) (v v2 : Value)
  (hp : tmps.getD p undef = .pointer (some ⟨g, 0, none⟩)) (hg : w.heap[g]? = some (.cells cs t fr))
  (hu : P.underlying ty = some d) (hd : (match d with | .struct _ | .array _ _ => true | _ => false) = true) (hi : (P.info? ty).map (·.size) = some cs.size)
  (a1 : tmps.getD p' undef = .pointer (some ⟨g', 0, none⟩)) (hl : (loadVar ty' ⟨g', 0, none⟩).run P w = .ok v w)
  (a2 : tmps.getD p2 undef = .pointer (some ⟨g2, 0, none⟩)) (a0 : (loadVar ty2 ⟨g2, 0, none⟩).run P w = .ok v2 w) :
  (results fn tmps).run P w = .ok (.tuple #[.agg cs, v, v2]) w := by
 have h1 : tmps[p]?.getD undef = .pointer (some ⟨g, 0, none⟩) := by simpa using hp
 have h2 : tmps[p']?.getD undef = .pointer (some ⟨g', 0, none⟩) := by simpa using a1
 have h3 : tmps[p2]?.getD undef = .pointer (some ⟨g2, 0, none⟩) := by simpa using a2
 simp [results, h, h1, h2, h3, asAddr, run_loadVar_row w g t ty cs fr d hg hu hd hi, hl, a0]
theorem load3 (w : World) (g : Nat) (v : Value) (h : w.cell? ⟨g, 0, none⟩ = some v) : (loadVar 3 ⟨g, 0, none⟩).run Try.prog w = .ok v w := by
 have hu := Try.underlying3
 simp [loadVar, hu, h, go_sem]
def notOk (k : Nat) (ts : List S49) (ys : List S51) (now a0 : Int) (x : Fin ys.length) : Prop := ∀ p, leaseO k (q0e ts (x.val : Int)) (q0c ys (x.val : Int)) now a0 = some p → p.2 ≠ 0
theorem leaseL_skip (k : Nat) (ts : List S49) (ys : List S51) (now a0 : Int) (hg : q4r k ts ys now a0 = true) : ∀ (a1 l : List (Fin ys.length)), (∀ y ∈ a1, notOk k ts ys now a0 y) → leaseL k ts ys now a0 (a1 ++ l) = leaseL k ts ys now a0 l
 | [], l, _ => rfl
 | x :: a1, l, h => by
  have ih := leaseL_skip k ts ys now a0 hg a1 l (fun y hy => h y (List.mem_cons_of_mem _ hy))
  obtain ⟨p, hp⟩ := Option.isSome_iff_exists.1 (List.all_eq_true.1 hg x (List.mem_finRange x))
  rw [List.cons_append, leaseL, hp, Option.bind_some, if_neg (h x (List.mem_cons_self ..) p hp), ih]
set_option maxHeartbeats 8000000 in
set_option maxRecDepth 100000 in
theorem lease_calls (k : Nat) (ky nm : ByteArray) (A1 : Option Addr) (c1 : Nat) (ts : List S49) (is : Int) (A2 : Option Addr) (c2 : Nat) (xs : List S51) (now a5 : Int) (r : Int × Int × List S51 × Int) (w : World) (hT : Kd.C k49 w A1 ts.length ts) (ht : ts.length ≤ c1) (hC : Kd.C k51 w A2 xs.length xs)
  (h : runLeaseO k ky nm ts is xs now a5 = some r) :
  Calls Try.prog 23 #[.agg #[(.string ky), (.string nm), (.slice A1 ts.length c1), (.int .i64 is), (.slice A2 xs.length c2)], .int .i64 now, .int .i64 a5] w fun e w' => leasePost ky nm A1 c1 ts A2 c2 xs w r e w' := by
 have u1 := Try.underlying27
 have t8 := Try.underlying24
 have u2 := Try.underlying49
 have u3 := Try.underlying51
 have t7 := Try.underlying22
 have t9 := Try.underlying25
 have HC := am hC
 have HT := am hT
 have n9 := am ht
 have HB := am (Below.refl w.heap.size w)
 obtain ⟨so, r6, h_⟩ := Option.bind_eq_some_iff.1 h
 have HO := am r6
 clear hT hC ht r6 h
 rcases so with _ | ⟨is', ys⟩
 ·
  obtain rfl := Option.some.inj h_
  clear h_
  go_enter Try.func23, Try.ntmps23
  go_wp2_with (first | ((with_reducible refine gD 3 ?_); refine bz 3 (#[(.string ky), (.string nm), (.slice A1 ts.length c1), (.int .i64 is), (.slice A2 xs.length c2)] : Array Value) 27 HB ?_; clear HB; intro g3 hg o6 hb B3 n1 HB; clear hb hg) | ((with_reducible refine gD 4 ?_); refine bz 4 (#[(.int .i64 now)] : Array Value) 3 HB ?_; clear HB; intro g4 hg o7 hb B4 n2 HB; have f5 := nP hg B3; have i5 := am f5.out.symm; replace B3 := kP B3 hb; clear hb hg) | ((with_reducible refine gD 5 ?_); refine bz 5 (#[(.int .i64 a5)] : Array Value) 3 HB ?_; clear HB; intro g5 hg o8 hb B5 n3 HB; have f6 := nP hg B3; have i6 := am f6.out.symm; have f7 := nP hg B4; have i7 := am f7.out.symm; replace B3 := kP B3 hb; replace B4 := kP B4 hb; clear hb hg) | ((with_reducible refine gD 6 ?_); refine bz 6 (#[(.string (⟨#[]⟩ : ByteArray)), (.string (⟨#[]⟩ : ByteArray)), (.slice none 0 0), (.int .i64 0), (.slice none 0 0)] : Array Value) 27 HB ?_; clear HB; intro g6 hg o9 hb B6 n4 HB; have d8 := nP hg B3; have i1 := am d8.out.symm; have f8 := nP hg B4; have i8 := am f8.out.symm; have g1 := nP hg B5; have i9 := am g1.out.symm; replace B3 := kP B3 hb; replace B4 := kP B4 hb; replace B5 := kP B5 hb; clear hb hg) | ((with_reducible refine gD 7 ?_); refine bz 7 (#[(.int .i64 0)] : Array Value) 3 HB ?_; clear HB; intro g7 hg p3 hb B7 n5 HB; have d9 := nP hg B3; have i2 := am d9.out.symm; have f9 := nP hg B4; have j0 := am f9.out.symm; have g2 := nP hg B5; have j1 := am g2.out.symm; have b6 := nP hg B6; have c8 := am b6.out.symm; replace B3 := kP B3 hb; replace B4 := kP B4 hb; replace B5 := kP B5 hb; replace B6 := kP B6 hb; clear hb hg) | ((with_reducible refine gD 8 ?_); refine bz 8 (#[(.int .i64 0)] : Array Value) 29 HB ?_; clear HB; intro g8 hg k9 hb B8 n6 HB; have e0 := nP hg B3; have i3 := am e0.out.symm; have g0 := nP hg B4; have j2 := am g0.out.symm; have g9 := nP hg B5; have j3 := am g9.out.symm; have b7 := nP hg B6; have d5 := am b7.out.symm; have b8 := nP hg B7; have d6 := am b8.out.symm; replace B3 := kP B3 hb; replace B4 := kP B4 hb; replace B5 := kP B5 hb; replace B6 := kP B6 hb; replace B7 := kP B7 hb; clear hb hg; obtain ⟨b0, b1, b2, b3, b4⟩ := ce5 B3.out; have k4 : k9.cell? ⟨g4, 0, none⟩ = some (.int .i64 now) := bc B4.out) | (go_at_call 14; refine (q2j k ky nm A1 c1 ts is A2 c2 xs now _ _ (Kd.C_below HT.out HB.out) n9.out (Kd.C_below HC.out HB.out) HO.out).mono ?_; rintro e w3 ⟨rfl, hb⟩; replace B3 := kP B3 hb; replace B4 := kP B4 hb; replace B5 := kP B5 hb; replace B6 := kP B6 hb; replace B7 := kP B7 hb; replace B8 := kP B8 hb; replace HB := bS HB hb; clear b0 b1 b2 b3 b4 k4 hb; obtain ⟨b0, b1, b2, b3, b4⟩ := ce5 B3.out; obtain ⟨m6, m7, m8, m9, j4⟩ := z5 B3.out; obtain ⟨d0, d1, d2, d3, d4⟩ := ce5 B6.out; obtain ⟨j5, j6, j7, j8, j9⟩ := z5 B6.out; have q0 := ce1 B7.out; have k1 := z1 B7.out; have u0 := ce1 B8.out; have k2 := z1 B8.out; have l6 := b6.out; have l8 := c8.out; have l7 := b7.out; have m0 := d5.out; have l9 := b8.out; have m1 := d6.out; have w6 := d8.out; have x8 := i1.out; have x5 := d9.out; have y6 := i2.out; have x6 := e0.out; have y8 := i3.out))
  refine bodyPost_ret (q3c rfl _ _ g6 g7 g8 27 (#[(.string (⟨#[]⟩ : ByteArray)), (.string (⟨#[]⟩ : ByteArray)), (.slice none 0 0), (.int .i64 0), (.slice none 0 0)] : Array Value) (0, 0) _ (.int .i64 0) (.int .i64 1) rfl (pP B6.out) Try.underlying27 rfl (by kernel_rfl) rfl (load3 _ _ _ ((q0i (pP (cs' := #[.int .i64 0]) B7.out) 0).trans rfl)) rfl (load29 _ _ _ ((q0i (pP (cs' := #[.int .i64 1]) B8.out) 0).trans rfl))) rfl ?_
  exact ⟨.inr ⟨by decide, rfl⟩, pB HB.out⟩
 have l0 := am (settleO_len HO.out)
 have a7 : (if a5 < 1 then (some (1, 0, [], 0) : Option (Int × Int × List S51 × Int)) else if 1099511627776 < a5 then some (1, 0, [], 0) else if noTok a5 ys = false then some (1, 0, [], 0) else if is' ≠ 0 then some (192, 0, [], 0) else if q4r k ts ys now a5 = false then none else (leaseL k ts ys now a5 (List.finRange ys.length)).bind fun o => match o with | none => some (192, 0, [], 0) | some (i, s) => some (0, is', ys.set i.val s, (i.val : Int))) = some r := h_
 clear h_
 by_cases hE : a5 < 1 ∨ 1099511627776 < a5 ∨ noTok a5 ys = false ∨ is' ≠ 0
 ·
  go_enter Try.func23, Try.ntmps23
  go_upto_region 2 with (first | ((with_reducible refine gD 3 ?_); refine bz 3 (#[(.string ky), (.string nm), (.slice A1 ts.length c1), (.int .i64 is), (.slice A2 xs.length c2)] : Array Value) 27 HB ?_; clear HB; intro g3 hg o6 hb B3 n1 HB; clear hb hg) | ((with_reducible refine gD 4 ?_); refine bz 4 (#[(.int .i64 now)] : Array Value) 3 HB ?_; clear HB; intro g4 hg o7 hb B4 n2 HB; have f5 := nP hg B3; have i5 := am f5.out.symm; replace B3 := kP B3 hb; clear hb hg) | ((with_reducible refine gD 5 ?_); refine bz 5 (#[(.int .i64 a5)] : Array Value) 3 HB ?_; clear HB; intro g5 hg o8 hb B5 n3 HB; have f6 := nP hg B3; have i6 := am f6.out.symm; have f7 := nP hg B4; have i7 := am f7.out.symm; replace B3 := kP B3 hb; replace B4 := kP B4 hb; clear hb hg) | ((with_reducible refine gD 6 ?_); refine bz 6 (#[(.string (⟨#[]⟩ : ByteArray)), (.string (⟨#[]⟩ : ByteArray)), (.slice none 0 0), (.int .i64 0), (.slice none 0 0)] : Array Value) 27 HB ?_; clear HB; intro g6 hg o9 hb B6 n4 HB; have d8 := nP hg B3; have i1 := am d8.out.symm; have f8 := nP hg B4; have i8 := am f8.out.symm; have g1 := nP hg B5; have i9 := am g1.out.symm; replace B3 := kP B3 hb; replace B4 := kP B4 hb; replace B5 := kP B5 hb; clear hb hg) | ((with_reducible refine gD 7 ?_); refine bz 7 (#[(.int .i64 0)] : Array Value) 3 HB ?_; clear HB; intro g7 hg p3 hb B7 n5 HB; have d9 := nP hg B3; have i2 := am d9.out.symm; have f9 := nP hg B4; have j0 := am f9.out.symm; have g2 := nP hg B5; have j1 := am g2.out.symm; have b6 := nP hg B6; have c8 := am b6.out.symm; replace B3 := kP B3 hb; replace B4 := kP B4 hb; replace B5 := kP B5 hb; replace B6 := kP B6 hb; clear hb hg) | ((with_reducible refine gD 8 ?_); refine bz 8 (#[(.int .i64 0)] : Array Value) 29 HB ?_; clear HB; intro g8 hg k9 hb B8 n6 HB; have e0 := nP hg B3; have i3 := am e0.out.symm; have g0 := nP hg B4; have j2 := am g0.out.symm; have g9 := nP hg B5; have j3 := am g9.out.symm; have b7 := nP hg B6; have d5 := am b7.out.symm; have b8 := nP hg B7; have d6 := am b8.out.symm; replace B3 := kP B3 hb; replace B4 := kP B4 hb; replace B5 := kP B5 hb; replace B6 := kP B6 hb; replace B7 := kP B7 hb; clear hb hg; obtain ⟨b0, b1, b2, b3, b4⟩ := ce5 B3.out; have k4 : k9.cell? ⟨g4, 0, none⟩ = some (.int .i64 now) := bc B4.out) | (go_at_call 14; refine (q2j k ky nm A1 c1 ts is A2 c2 xs now _ _ (Kd.C_below HT.out HB.out) n9.out (Kd.C_below HC.out HB.out) HO.out).mono ?_; rintro e w3 ⟨⟨v3, rfl, ho⟩, hb⟩; obtain ⟨A3, c3, e3⟩ := q1c.slice ho; (try dsimp only at e3); subst e3; have H3 := am (q1c.base ho (q0p HB.out)); replace B3 := kP B3 hb; replace B4 := kP B4 hb; replace B5 := kP B5 hb; replace B6 := kP B6 hb; replace B7 := kP B7 hb; replace B8 := kP B8 hb; replace HB := bS HB hb; clear b0 b1 b2 b3 b4 k4 hb; obtain ⟨b0, b1, b2, b3, b4⟩ := ce5 B3.out; obtain ⟨m6, m7, m8, m9, j4⟩ := z5 B3.out; clear ho))
  have X3 := am (show (((((w3.setCell ⟨g3, 0, none⟩ (.string ky)).setCell ⟨g3, 1, none⟩ (.string nm)).setCell ⟨g3, 2, none⟩ (.slice A1 ts.length c1)).setCell ⟨g3, 3, none⟩ (.int .i64 is')).setCell ⟨g3, 4, none⟩ (.slice A3 ys.length c3)).heap[g3]? = some (.cells (#[(.string ky), (.string nm), (.slice A1 ts.length c1), (.int .i64 is'), (.slice A3 ys.length c3)] : Array Value) 27 (0, 0)) from pP B3.out)
  have X4 := am (show (((((w3.setCell ⟨g3, 0, none⟩ (.string ky)).setCell ⟨g3, 1, none⟩ (.string nm)).setCell ⟨g3, 2, none⟩ (.slice A1 ts.length c1)).setCell ⟨g3, 3, none⟩ (.int .i64 is')).setCell ⟨g3, 4, none⟩ (.slice A3 ys.length c3)).heap[g4]? = some (.cells (#[(.int .i64 now)] : Array Value) 3 (0, 0)) from pP B4.out)
  have X5 := am (show (((((w3.setCell ⟨g3, 0, none⟩ (.string ky)).setCell ⟨g3, 1, none⟩ (.string nm)).setCell ⟨g3, 2, none⟩ (.slice A1 ts.length c1)).setCell ⟨g3, 3, none⟩ (.int .i64 is')).setCell ⟨g3, 4, none⟩ (.slice A3 ys.length c3)).heap[g5]? = some (.cells (#[(.int .i64 a5)] : Array Value) 3 (0, 0)) from pP B5.out)
  have X6 := am (show (((((w3.setCell ⟨g3, 0, none⟩ (.string ky)).setCell ⟨g3, 1, none⟩ (.string nm)).setCell ⟨g3, 2, none⟩ (.slice A1 ts.length c1)).setCell ⟨g3, 3, none⟩ (.int .i64 is')).setCell ⟨g3, 4, none⟩ (.slice A3 ys.length c3)).heap[g6]? = some (.cells (#[(.string (⟨#[]⟩ : ByteArray)), (.string (⟨#[]⟩ : ByteArray)), (.slice none 0 0), (.int .i64 0), (.slice none 0 0)] : Array Value) 27 (0, 0)) from pP B6.out)
  have X7 := am (show (((((w3.setCell ⟨g3, 0, none⟩ (.string ky)).setCell ⟨g3, 1, none⟩ (.string nm)).setCell ⟨g3, 2, none⟩ (.slice A1 ts.length c1)).setCell ⟨g3, 3, none⟩ (.int .i64 is')).setCell ⟨g3, 4, none⟩ (.slice A3 ys.length c3)).heap[g7]? = some (.cells (#[(.int .i64 0)] : Array Value) 3 (0, 0)) from pP B7.out)
  have X8 := am (show (((((w3.setCell ⟨g3, 0, none⟩ (.string ky)).setCell ⟨g3, 1, none⟩ (.string nm)).setCell ⟨g3, 2, none⟩ (.slice A1 ts.length c1)).setCell ⟨g3, 3, none⟩ (.int .i64 is')).setCell ⟨g3, 4, none⟩ (.slice A3 ys.length c3)).heap[g8]? = some (.cells (#[(.int .i64 0)] : Array Value) 29 (0, 0)) from pP B8.out)
  have XR := am (show q1c w (((((w3.setCell ⟨g3, 0, none⟩ (.string ky)).setCell ⟨g3, 1, none⟩ (.string nm)).setCell ⟨g3, 2, none⟩ (.slice A1 ts.length c1)).setCell ⟨g3, 3, none⟩ (.int .i64 is')).setCell ⟨g3, 4, none⟩ (.slice A3 ys.length c3)) A2 c2 xs (.slice A3 ys.length c3) ys from (q1c.set (q1c.set (q1c.set (q1c.set (q1c.set H3.out (pP (cs' := #[(.string ky), (.string nm), (.slice A1 ts.length c1), (.int .i64 is), (.slice A2 xs.length c2)]) B3.out) (by decide) _ _) (pP (cs' := #[(.string ky), (.string nm), (.slice A1 ts.length c1), (.int .i64 is), (.slice A2 xs.length c2)]) B3.out) (by decide) _ _) (pP (cs' := #[(.string ky), (.string nm), (.slice A1 ts.length c1), (.int .i64 is), (.slice A2 xs.length c2)]) B3.out) (by decide) _ _) (pP (cs' := #[(.string ky), (.string nm), (.slice A1 ts.length c1), (.int .i64 is), (.slice A2 xs.length c2)]) B3.out) (by decide) _ _) (pP (cs' := #[(.string ky), (.string nm), (.slice A1 ts.length c1), (.int .i64 is'), (.slice A2 xs.length c2)]) B3.out) (by decide) _ _))
  have XB := am (show Below w.heap.size w (((((w3.setCell ⟨g3, 0, none⟩ (.string ky)).setCell ⟨g3, 1, none⟩ (.string nm)).setCell ⟨g3, 2, none⟩ (.slice A1 ts.length c1)).setCell ⟨g3, 3, none⟩ (.int .i64 is')).setCell ⟨g3, 4, none⟩ (.slice A3 ys.length c3)) from pB HB.out)
  clear H3 HB B3 B4 B5 B6 B7 B8 b0 b1 b2 b3 b4 m6 m7 m8 m9 j4
  have B3 := X3
  have B4 := X4
  have B5 := X5
  have B6 := X6
  have B7 := X7
  have B8 := X8
  have H3 := XR
  have HB := XB
  clear XR XB X3 X4 X5 X6 X7 X8
  generalize (((((w3.setCell ⟨g3, 0, none⟩ (.string ky)).setCell ⟨g3, 1, none⟩ (.string nm)).setCell ⟨g3, 2, none⟩ (.slice A1 ts.length c1)).setCell ⟨g3, 3, none⟩ (.int .i64 is')).setCell ⟨g3, 4, none⟩ (.slice A3 ys.length c3)) = w4 at *
  obtain ⟨b0, b1, b2, b3, b4⟩ := ce5 B3.out
  have k5 : w4.cell? ⟨g5, 0, none⟩ = some (.int .i64 a5) := bc B5.out
  obtain ⟨d0, d1, d2, d3, d4⟩ := ce5 B6.out
  obtain ⟨j5, j6, j7, j8, j9⟩ := z5 B6.out
  have q0 := ce1 B7.out
  have k1 := z1 B7.out
  have u0 := ce1 B8.out
  have k2 := z1 B8.out
  have l6 := b6.out
  have l8 := c8.out
  have l7 := b7.out
  have m0 := d5.out
  have l9 := b8.out
  have m1 := d6.out
  by_cases h9 : a5 < 1
  ·
   rw [if_pos h9] at a7
   obtain rfl := Option.some.inj a7
   have E1 := decide_eq_true h9
   clear h9 a7 hE
   go_wp2
   refine bodyPost_ret (q3c rfl _ _ g6 g7 g8 27 (#[(.string (⟨#[]⟩ : ByteArray)), (.string (⟨#[]⟩ : ByteArray)), (.slice none 0 0), (.int .i64 0), (.slice none 0 0)] : Array Value) (0, 0) _ (.int .i64 0) (.int .i64 1) rfl (pP B6.out) Try.underlying27 rfl (by kernel_rfl) rfl (load3 _ _ _ ((q0i (pP (cs' := #[.int .i64 0]) B7.out) 0).trans rfl)) rfl (load29 _ _ _ ((q0i (pP (cs' := #[.int .i64 1]) B8.out) 0).trans rfl))) rfl ?_
   exact ⟨.inr ⟨by decide, rfl⟩, pB HB.out⟩
  rw [if_neg h9] at a7
  have E1 := decide_eq_false h9
  have s7 := am h9
  by_cases i4 : 1099511627776 < a5
  ·
   rw [if_pos i4] at a7
   obtain rfl := Option.some.inj a7
   have E2 := decide_eq_true i4
   have v6 : decide (a5 > 1099511627776) = true := E2
   clear h9 i4 a7 hE
   go_wp2
   refine bodyPost_ret (q3c rfl _ _ g6 g7 g8 27 (#[(.string (⟨#[]⟩ : ByteArray)), (.string (⟨#[]⟩ : ByteArray)), (.slice none 0 0), (.int .i64 0), (.slice none 0 0)] : Array Value) (0, 0) _ (.int .i64 0) (.int .i64 1) rfl (pP B6.out) Try.underlying27 rfl (by kernel_rfl) rfl (load3 _ _ _ ((q0i (pP (cs' := #[.int .i64 0]) B7.out) 0).trans rfl)) rfl (load29 _ _ _ ((q0i (pP (cs' := #[.int .i64 1]) B8.out) 0).trans rfl))) rfl ?_
   exact ⟨.inr ⟨by decide, rfl⟩, pB HB.out⟩
  rw [if_neg i4] at a7
  have E2 : decide (a5 > 1099511627776) = false := decide_eq_false i4
  have s8 := am i4
  by_cases hn : noTok a5 ys = false
  ·
   rw [if_pos hn] at a7
   obtain rfl := Option.some.inj a7
   have HN := am hn
   clear h9 i4 hn a7 hE
   go_wp2_with (go_at_call 61; refine (tok_calls g5 a5 A3 c3 ys _ (q1c.reads H3.out HC.out HB.out) (by have h_ := l0.out; (try dsimp only at h_); omega) B5.out).mono ?_; rintro e w5 ⟨rfl, hb⟩; rw [HN.out]; replace B3 := kP B3 hb; replace B4 := kP B4 hb; replace B5 := kP B5 hb; replace B6 := kP B6 hb; replace B7 := kP B7 hb; replace B8 := kP B8 hb; replace HB := bS HB hb; clear b0 b1 b2 b3 b4 k5 d0 d1 d2 d3 d4 j5 j6 j7 j8 j9 q0 k1 u0 k2 H3 l6 l8 l7 m0 l9 m1 hb; obtain ⟨d0, d1, d2, d3, d4⟩ := ce5 B6.out; obtain ⟨j5, j6, j7, j8, j9⟩ := z5 B6.out; have q0 := ce1 B7.out; have k1 := z1 B7.out; have u0 := ce1 B8.out; have k2 := z1 B8.out; have l6 := b6.out; have l8 := c8.out; have l7 := b7.out; have m0 := d5.out; have l9 := b8.out; have m1 := d6.out)
   refine bodyPost_ret (q3c rfl _ _ g6 g7 g8 27 (#[(.string (⟨#[]⟩ : ByteArray)), (.string (⟨#[]⟩ : ByteArray)), (.slice none 0 0), (.int .i64 0), (.slice none 0 0)] : Array Value) (0, 0) _ (.int .i64 0) (.int .i64 1) rfl (pP B6.out) Try.underlying27 rfl (by kernel_rfl) rfl (load3 _ _ _ ((q0i (pP (cs' := #[.int .i64 0]) B7.out) 0).trans rfl)) rfl (load29 _ _ _ ((q0i (pP (cs' := #[.int .i64 1]) B8.out) 0).trans rfl))) rfl ?_
   exact ⟨.inr ⟨by decide, rfl⟩, pB HB.out⟩
  rw [if_neg hn] at a7
  have HN : q0f (noTok a5 ys = true) := ⟨by simpa using hn⟩
  by_cases hi : is' ≠ 0
  ·
   rw [if_pos hi] at a7
   obtain rfl := Option.some.inj a7
   have E3 := beq_eq_false_iff_ne.2 hi
   clear h9 i4 hn hi a7 hE
   go_wp2_with (go_at_call 61; refine (tok_calls g5 a5 A3 c3 ys _ (q1c.reads H3.out HC.out HB.out) (by have h_ := l0.out; (try dsimp only at h_); omega) B5.out).mono ?_; rintro e w5 ⟨rfl, hb⟩; rw [HN.out]; replace B3 := kP B3 hb; replace B4 := kP B4 hb; replace B5 := kP B5 hb; replace B6 := kP B6 hb; replace B7 := kP B7 hb; replace B8 := kP B8 hb; replace HB := bS HB hb; clear b0 b1 b2 b3 b4 k5 d0 d1 d2 d3 d4 j5 j6 j7 j8 j9 q0 k1 u0 k2 H3 l6 l8 l7 m0 l9 m1 hb; obtain ⟨d0, d1, d2, d3, d4⟩ := ce5 B6.out; obtain ⟨j5, j6, j7, j8, j9⟩ := z5 B6.out; have q0 := ce1 B7.out; have k1 := z1 B7.out; have u0 := ce1 B8.out; have k2 := z1 B8.out; have l6 := b6.out; have l8 := c8.out; have l7 := b7.out; have m0 := d5.out; have l9 := b8.out; have m1 := d6.out; obtain ⟨b0, b1, b2, b3, b4⟩ := ce5 B3.out)
   refine bodyPost_ret (q3c rfl _ _ g6 g7 g8 27 (#[(.string (⟨#[]⟩ : ByteArray)), (.string (⟨#[]⟩ : ByteArray)), (.slice none 0 0), (.int .i64 0), (.slice none 0 0)] : Array Value) (0, 0) _ (.int .i64 0) (.int .i64 192) rfl (pP B6.out) Try.underlying27 rfl (by kernel_rfl) rfl (load3 _ _ _ ((q0i (pP (cs' := #[.int .i64 0]) B7.out) 0).trans rfl)) rfl (load29 _ _ _ ((q0i (pP (cs' := #[.int .i64 192]) B8.out) 0).trans rfl))) rfl ?_
   exact ⟨.inr ⟨by decide, rfl⟩, pB HB.out⟩
  exact absurd hE (by simp [h9, i4, hn, hi])
 have h9 : ¬ a5 < 1 := fun e => hE (.inl e)
 have i4 : ¬ 1099511627776 < a5 := fun e => hE (.inr (.inl e))
 have hn : ¬ noTok a5 ys = false := fun e => hE (.inr (.inr (.inl e)))
 have hi : ¬ is' ≠ 0 := fun e => hE (.inr (.inr (.inr e)))
 clear hE
 rw [if_neg h9] at a7
 have E1 := decide_eq_false h9
 have s7 := am h9
 clear h9
 rw [if_neg i4] at a7
 have E2 : decide (a5 > 1099511627776) = false := decide_eq_false i4
 have s8 := am i4
 clear i4
 rw [if_neg hn] at a7
 have HN : q0f (noTok a5 ys = true) := ⟨by simpa using hn⟩
 clear hn
 rw [if_neg hi] at a7
 obtain rfl : is' = 0 := by simpa using hi
 clear hi
 by_cases hg : q4r k ts ys now a5 = false
 ·
  rw [if_pos hg] at a7; cases a7
 rw [if_neg hg] at a7
 have HG : q0f (q4r k ts ys now a5 = true) := ⟨by simpa using hg⟩
 have p5 := am a7
 clear hg a7
 refine (callsIn_wide (n := 6)).1 ?_
 refine callsIn_of_wp_marks Try.func23 rfl trivial ?_ rfl
 simp only [Try.ntmps23, List.size_toArray, List.length_cons, List.length_nil, Nat.reduceAdd, Nat.reduceSub, Array.replicate_succ, Array.replicate_zero, List.push_toArray, List.append_toArray, List.nil_append, List.cons_append]
 have B3 := am (show ((w).alloc (.cells #[(.string ky), (.string nm), (.slice A1 ts.length c1), (.int .i64 is), (.slice A2 xs.length c2)] 27)).heap[w.heap.size]? = some (.cells (#[(.string ky), (.string nm), (.slice A1 ts.length c1), (.int .i64 is), (.slice A2 xs.length c2)] : Array Value) 27 (0, 0)) from (by have h_ := q1j w (.cells #[(.string ky), (.string nm), (.slice A1 ts.length c1), (.int .i64 is), (.slice A2 xs.length c2)] 27); exact h_))
 have X3 := am (q0h B3.out (.cells #[(.int .i64 now)] 3))
 clear B3
 have B3 := X3
 clear X3
 have B4 := am (show (((w).alloc (.cells #[(.string ky), (.string nm), (.slice A1 ts.length c1), (.int .i64 is), (.slice A2 xs.length c2)] 27)).alloc (.cells #[(.int .i64 now)] 3)).heap[w.heap.size + 1]? = some (.cells (#[(.int .i64 now)] : Array Value) 3 (0, 0)) from (by have h_ := q1j ((w).alloc (.cells #[(.string ky), (.string nm), (.slice A1 ts.length c1), (.int .i64 is), (.slice A2 xs.length c2)] 27)) (.cells #[(.int .i64 now)] 3); rwa [World.size_alloc] at h_))
 have X3 := am (q0h B3.out (.cells #[(.int .i64 a5)] 3))
 have X4 := am (q0h B4.out (.cells #[(.int .i64 a5)] 3))
 clear B3 B4
 have B3 := X3
 have B4 := X4
 clear X3 X4
 have B5 := am (show ((((w).alloc (.cells #[(.string ky), (.string nm), (.slice A1 ts.length c1), (.int .i64 is), (.slice A2 xs.length c2)] 27)).alloc (.cells #[(.int .i64 now)] 3)).alloc (.cells #[(.int .i64 a5)] 3)).heap[w.heap.size + 1 + 1]? = some (.cells (#[(.int .i64 a5)] : Array Value) 3 (0, 0)) from (by have h_ := q1j (((w).alloc (.cells #[(.string ky), (.string nm), (.slice A1 ts.length c1), (.int .i64 is), (.slice A2 xs.length c2)] 27)).alloc (.cells #[(.int .i64 now)] 3)) (.cells #[(.int .i64 a5)] 3); rwa [World.size_alloc, World.size_alloc] at h_))
 have X3 := am (q0h B3.out (.cells #[(.string (⟨#[]⟩ : ByteArray)), (.string (⟨#[]⟩ : ByteArray)), (.slice none 0 0), (.int .i64 0), (.slice none 0 0)] 27))
 have X4 := am (q0h B4.out (.cells #[(.string (⟨#[]⟩ : ByteArray)), (.string (⟨#[]⟩ : ByteArray)), (.slice none 0 0), (.int .i64 0), (.slice none 0 0)] 27))
 have X5 := am (q0h B5.out (.cells #[(.string (⟨#[]⟩ : ByteArray)), (.string (⟨#[]⟩ : ByteArray)), (.slice none 0 0), (.int .i64 0), (.slice none 0 0)] 27))
 clear B3 B4 B5
 have B3 := X3
 have B4 := X4
 have B5 := X5
 clear X3 X4 X5
 have B6 := am (show (((((w).alloc (.cells #[(.string ky), (.string nm), (.slice A1 ts.length c1), (.int .i64 is), (.slice A2 xs.length c2)] 27)).alloc (.cells #[(.int .i64 now)] 3)).alloc (.cells #[(.int .i64 a5)] 3)).alloc (.cells #[(.string (⟨#[]⟩ : ByteArray)), (.string (⟨#[]⟩ : ByteArray)), (.slice none 0 0), (.int .i64 0), (.slice none 0 0)] 27)).heap[w.heap.size + 1 + 1 + 1]? = some (.cells (#[(.string (⟨#[]⟩ : ByteArray)), (.string (⟨#[]⟩ : ByteArray)), (.slice none 0 0), (.int .i64 0), (.slice none 0 0)] : Array Value) 27 (0, 0)) from (by have h_ := q1j ((((w).alloc (.cells #[(.string ky), (.string nm), (.slice A1 ts.length c1), (.int .i64 is), (.slice A2 xs.length c2)] 27)).alloc (.cells #[(.int .i64 now)] 3)).alloc (.cells #[(.int .i64 a5)] 3)) (.cells #[(.string (⟨#[]⟩ : ByteArray)), (.string (⟨#[]⟩ : ByteArray)), (.slice none 0 0), (.int .i64 0), (.slice none 0 0)] 27); rwa [World.size_alloc, World.size_alloc, World.size_alloc] at h_))
 have X3 := am (q0h B3.out (.cells #[(.int .i64 0)] 3))
 have X4 := am (q0h B4.out (.cells #[(.int .i64 0)] 3))
 have X5 := am (q0h B5.out (.cells #[(.int .i64 0)] 3))
 have X6 := am (q0h B6.out (.cells #[(.int .i64 0)] 3))
 clear B3 B4 B5 B6
 have B3 := X3
 have B4 := X4
 have B5 := X5
 have B6 := X6
 clear X3 X4 X5 X6
 have B7 := am (show ((((((w).alloc (.cells #[(.string ky), (.string nm), (.slice A1 ts.length c1), (.int .i64 is), (.slice A2 xs.length c2)] 27)).alloc (.cells #[(.int .i64 now)] 3)).alloc (.cells #[(.int .i64 a5)] 3)).alloc (.cells #[(.string (⟨#[]⟩ : ByteArray)), (.string (⟨#[]⟩ : ByteArray)), (.slice none 0 0), (.int .i64 0), (.slice none 0 0)] 27)).alloc (.cells #[(.int .i64 0)] 3)).heap[w.heap.size + 1 + 1 + 1 + 1]? = some (.cells (#[(.int .i64 0)] : Array Value) 3 (0, 0)) from (by have h_ := q1j (((((w).alloc (.cells #[(.string ky), (.string nm), (.slice A1 ts.length c1), (.int .i64 is), (.slice A2 xs.length c2)] 27)).alloc (.cells #[(.int .i64 now)] 3)).alloc (.cells #[(.int .i64 a5)] 3)).alloc (.cells #[(.string (⟨#[]⟩ : ByteArray)), (.string (⟨#[]⟩ : ByteArray)), (.slice none 0 0), (.int .i64 0), (.slice none 0 0)] 27)) (.cells #[(.int .i64 0)] 3); rwa [World.size_alloc, World.size_alloc, World.size_alloc, World.size_alloc] at h_))
 have X3 := am (q0h B3.out (.cells #[(.int .i64 0)] 29))
 have X4 := am (q0h B4.out (.cells #[(.int .i64 0)] 29))
 have X5 := am (q0h B5.out (.cells #[(.int .i64 0)] 29))
 have X6 := am (q0h B6.out (.cells #[(.int .i64 0)] 29))
 have X7 := am (q0h B7.out (.cells #[(.int .i64 0)] 29))
 clear B3 B4 B5 B6 B7
 have B3 := X3
 have B4 := X4
 have B5 := X5
 have B6 := X6
 have B7 := X7
 clear X3 X4 X5 X6 X7
 have B8 := am (show (((((((w).alloc (.cells #[(.string ky), (.string nm), (.slice A1 ts.length c1), (.int .i64 is), (.slice A2 xs.length c2)] 27)).alloc (.cells #[(.int .i64 now)] 3)).alloc (.cells #[(.int .i64 a5)] 3)).alloc (.cells #[(.string (⟨#[]⟩ : ByteArray)), (.string (⟨#[]⟩ : ByteArray)), (.slice none 0 0), (.int .i64 0), (.slice none 0 0)] 27)).alloc (.cells #[(.int .i64 0)] 3)).alloc (.cells #[(.int .i64 0)] 29)).heap[w.heap.size + 1 + 1 + 1 + 1 + 1]? = some (.cells (#[(.int .i64 0)] : Array Value) 29 (0, 0)) from (by have h_ := q1j ((((((w).alloc (.cells #[(.string ky), (.string nm), (.slice A1 ts.length c1), (.int .i64 is), (.slice A2 xs.length c2)] 27)).alloc (.cells #[(.int .i64 now)] 3)).alloc (.cells #[(.int .i64 a5)] 3)).alloc (.cells #[(.string (⟨#[]⟩ : ByteArray)), (.string (⟨#[]⟩ : ByteArray)), (.slice none 0 0), (.int .i64 0), (.slice none 0 0)] 27)).alloc (.cells #[(.int .i64 0)] 3)) (.cells #[(.int .i64 0)] 29); rwa [World.size_alloc, World.size_alloc, World.size_alloc, World.size_alloc, World.size_alloc] at h_))
 have XB := am (show Below w.heap.size w (((((((w).alloc (.cells #[(.string ky), (.string nm), (.slice A1 ts.length c1), (.int .i64 is), (.slice A2 xs.length c2)] 27)).alloc (.cells #[(.int .i64 now)] 3)).alloc (.cells #[(.int .i64 a5)] 3)).alloc (.cells #[(.string (⟨#[]⟩ : ByteArray)), (.string (⟨#[]⟩ : ByteArray)), (.slice none 0 0), (.int .i64 0), (.slice none 0 0)] 27)).alloc (.cells #[(.int .i64 0)] 3)).alloc (.cells #[(.int .i64 0)] 29)) from (q0d (q0d (q0d (q0d (q0d (q0d (Below.refl _ w) _) _) _) _) _) _))
 clear HB
 have HB := XB
 clear XB
 gi_wp2_with (first | (refine ⟨trivial, ?_⟩; gi_at_call 14; refine (callsIn_wide.2 (q2j k ky nm A1 c1 ts is A2 c2 xs now _ _ (Kd.C_below HT.out HB.out) n9.out (Kd.C_below HC.out HB.out) HO.out)).mono ?_; rintro e w3 ⟨⟨v3, rfl, ho⟩, hb⟩; obtain ⟨A3, c3, e3⟩ := q1c.slice ho; (try dsimp only at e3); subst e3; have H3 := am (q1c.base ho (q0p HB.out)); have X3 := am (q0b B3.out hb); have X4 := am (q0b B4.out hb); have X5 := am (q0b B5.out hb); have X6 := am (q0b B6.out hb); have X7 := am (q0b B7.out hb); have X8 := am (q0b B8.out hb); have XB := am (q0j HB.out hb); have s5 := am (show w.heap.size + 6 ≤ w3.heap.size by have := hb.size; simp at this; omega); clear HB B3 B4 B5 B6 B7 B8; have B3 := X3; have B4 := X4; have B5 := X5; have B6 := X6; have B7 := X7; have B8 := X8; have HB := XB; clear XB hb ho X3 X4 X5 X6 X7 X8; obtain ⟨b0, b1, b2, b3, b4⟩ := ce5 B3.out; obtain ⟨m6, m7, m8, m9, j4⟩ := z5 B3.out; have k5 : w3.cell? ⟨w.heap.size + 1 + 1, 0, none⟩ = some (.int .i64 a5) := bc B5.out) | (refine ⟨trivial, ?_⟩; gi_at_call 61; have X3 := am (show (((((w3.setCell ⟨w.heap.size, 0, none⟩ (.string ky)).setCell ⟨w.heap.size, 1, none⟩ (.string nm)).setCell ⟨w.heap.size, 2, none⟩ (.slice A1 ts.length c1)).setCell ⟨w.heap.size, 3, none⟩ (.int .i64 0)).setCell ⟨w.heap.size, 4, none⟩ (.slice A3 ys.length c3)).heap[w.heap.size]? = some (.cells (#[(.string ky), (.string nm), (.slice A1 ts.length c1), (.int .i64 0), (.slice A3 ys.length c3)] : Array Value) 27 (0, 0)) from (q0o (cs := #[(.string ky), (.string nm), (.slice A1 ts.length c1), (.int .i64 0), (.slice A2 xs.length c2)]) (cs' := #[(.string ky), (.string nm), (.slice A1 ts.length c1), (.int .i64 0), (.slice A3 ys.length c3)]) (q0o (cs := #[(.string ky), (.string nm), (.slice A1 ts.length c1), (.int .i64 is), (.slice A2 xs.length c2)]) (cs' := #[(.string ky), (.string nm), (.slice A1 ts.length c1), (.int .i64 0), (.slice A2 xs.length c2)]) (q0o (cs := #[(.string ky), (.string nm), (.slice A1 ts.length c1), (.int .i64 is), (.slice A2 xs.length c2)]) (cs' := #[(.string ky), (.string nm), (.slice A1 ts.length c1), (.int .i64 is), (.slice A2 xs.length c2)]) (q0o (cs := #[(.string ky), (.string nm), (.slice A1 ts.length c1), (.int .i64 is), (.slice A2 xs.length c2)]) (cs' := #[(.string ky), (.string nm), (.slice A1 ts.length c1), (.int .i64 is), (.slice A2 xs.length c2)]) (q0o (cs := #[(.string ky), (.string nm), (.slice A1 ts.length c1), (.int .i64 is), (.slice A2 xs.length c2)]) (cs' := #[(.string ky), (.string nm), (.slice A1 ts.length c1), (.int .i64 is), (.slice A2 xs.length c2)]) B3.out 0 _ rfl) 1 _ rfl) 2 _ rfl) 3 _ rfl) 4 _ rfl)); have X4 := am (show (((((w3.setCell ⟨w.heap.size, 0, none⟩ (.string ky)).setCell ⟨w.heap.size, 1, none⟩ (.string nm)).setCell ⟨w.heap.size, 2, none⟩ (.slice A1 ts.length c1)).setCell ⟨w.heap.size, 3, none⟩ (.int .i64 0)).setCell ⟨w.heap.size, 4, none⟩ (.slice A3 ys.length c3)).heap[w.heap.size + 1]? = some (.cells (#[(.int .i64 now)] : Array Value) 3 (0, 0)) from (q0l (q0l (q0l (q0l (q0l B4.out (by show w.heap.size + 1 ≠ w.heap.size; omega) _) (by show w.heap.size + 1 ≠ w.heap.size; omega) _) (by show w.heap.size + 1 ≠ w.heap.size; omega) _) (by show w.heap.size + 1 ≠ w.heap.size; omega) _) (by show w.heap.size + 1 ≠ w.heap.size; omega) _)); have X5 := am (show (((((w3.setCell ⟨w.heap.size, 0, none⟩ (.string ky)).setCell ⟨w.heap.size, 1, none⟩ (.string nm)).setCell ⟨w.heap.size, 2, none⟩ (.slice A1 ts.length c1)).setCell ⟨w.heap.size, 3, none⟩ (.int .i64 0)).setCell ⟨w.heap.size, 4, none⟩ (.slice A3 ys.length c3)).heap[w.heap.size + 1 + 1]? = some (.cells (#[(.int .i64 a5)] : Array Value) 3 (0, 0)) from (q0l (q0l (q0l (q0l (q0l B5.out (by show w.heap.size + 1 + 1 ≠ w.heap.size; omega) _) (by show w.heap.size + 1 + 1 ≠ w.heap.size; omega) _) (by show w.heap.size + 1 + 1 ≠ w.heap.size; omega) _) (by show w.heap.size + 1 + 1 ≠ w.heap.size; omega) _) (by show w.heap.size + 1 + 1 ≠ w.heap.size; omega) _)); have X6 := am (show (((((w3.setCell ⟨w.heap.size, 0, none⟩ (.string ky)).setCell ⟨w.heap.size, 1, none⟩ (.string nm)).setCell ⟨w.heap.size, 2, none⟩ (.slice A1 ts.length c1)).setCell ⟨w.heap.size, 3, none⟩ (.int .i64 0)).setCell ⟨w.heap.size, 4, none⟩ (.slice A3 ys.length c3)).heap[w.heap.size + 1 + 1 + 1]? = some (.cells (#[(.string (⟨#[]⟩ : ByteArray)), (.string (⟨#[]⟩ : ByteArray)), (.slice none 0 0), (.int .i64 0), (.slice none 0 0)] : Array Value) 27 (0, 0)) from (q0l (q0l (q0l (q0l (q0l B6.out (by show w.heap.size + 1 + 1 + 1 ≠ w.heap.size; omega) _) (by show w.heap.size + 1 + 1 + 1 ≠ w.heap.size; omega) _) (by show w.heap.size + 1 + 1 + 1 ≠ w.heap.size; omega) _) (by show w.heap.size + 1 + 1 + 1 ≠ w.heap.size; omega) _) (by show w.heap.size + 1 + 1 + 1 ≠ w.heap.size; omega) _)); have X7 := am (show (((((w3.setCell ⟨w.heap.size, 0, none⟩ (.string ky)).setCell ⟨w.heap.size, 1, none⟩ (.string nm)).setCell ⟨w.heap.size, 2, none⟩ (.slice A1 ts.length c1)).setCell ⟨w.heap.size, 3, none⟩ (.int .i64 0)).setCell ⟨w.heap.size, 4, none⟩ (.slice A3 ys.length c3)).heap[w.heap.size + 1 + 1 + 1 + 1]? = some (.cells (#[(.int .i64 0)] : Array Value) 3 (0, 0)) from (q0l (q0l (q0l (q0l (q0l B7.out (by show w.heap.size + 1 + 1 + 1 + 1 ≠ w.heap.size; omega) _) (by show w.heap.size + 1 + 1 + 1 + 1 ≠ w.heap.size; omega) _) (by show w.heap.size + 1 + 1 + 1 + 1 ≠ w.heap.size; omega) _) (by show w.heap.size + 1 + 1 + 1 + 1 ≠ w.heap.size; omega) _) (by show w.heap.size + 1 + 1 + 1 + 1 ≠ w.heap.size; omega) _)); have X8 := am (show (((((w3.setCell ⟨w.heap.size, 0, none⟩ (.string ky)).setCell ⟨w.heap.size, 1, none⟩ (.string nm)).setCell ⟨w.heap.size, 2, none⟩ (.slice A1 ts.length c1)).setCell ⟨w.heap.size, 3, none⟩ (.int .i64 0)).setCell ⟨w.heap.size, 4, none⟩ (.slice A3 ys.length c3)).heap[w.heap.size + 1 + 1 + 1 + 1 + 1]? = some (.cells (#[(.int .i64 0)] : Array Value) 29 (0, 0)) from (q0l (q0l (q0l (q0l (q0l B8.out (by show w.heap.size + 1 + 1 + 1 + 1 + 1 ≠ w.heap.size; omega) _) (by show w.heap.size + 1 + 1 + 1 + 1 + 1 ≠ w.heap.size; omega) _) (by show w.heap.size + 1 + 1 + 1 + 1 + 1 ≠ w.heap.size; omega) _) (by show w.heap.size + 1 + 1 + 1 + 1 + 1 ≠ w.heap.size; omega) _) (by show w.heap.size + 1 + 1 + 1 + 1 + 1 ≠ w.heap.size; omega) _)); have XR := am (show q1c w (((((w3.setCell ⟨w.heap.size, 0, none⟩ (.string ky)).setCell ⟨w.heap.size, 1, none⟩ (.string nm)).setCell ⟨w.heap.size, 2, none⟩ (.slice A1 ts.length c1)).setCell ⟨w.heap.size, 3, none⟩ (.int .i64 0)).setCell ⟨w.heap.size, 4, none⟩ (.slice A3 ys.length c3)) A2 c2 xs (.slice A3 ys.length c3) ys from (q1c.set (q1c.set (q1c.set (q1c.set (q1c.set H3.out B3.out (by decide) _ _) (q0o (cs := #[(.string ky), (.string nm), (.slice A1 ts.length c1), (.int .i64 is), (.slice A2 xs.length c2)]) (cs' := #[(.string ky), (.string nm), (.slice A1 ts.length c1), (.int .i64 is), (.slice A2 xs.length c2)]) B3.out 0 _ rfl) (by decide) _ _) (q0o (cs := #[(.string ky), (.string nm), (.slice A1 ts.length c1), (.int .i64 is), (.slice A2 xs.length c2)]) (cs' := #[(.string ky), (.string nm), (.slice A1 ts.length c1), (.int .i64 is), (.slice A2 xs.length c2)]) (q0o (cs := #[(.string ky), (.string nm), (.slice A1 ts.length c1), (.int .i64 is), (.slice A2 xs.length c2)]) (cs' := #[(.string ky), (.string nm), (.slice A1 ts.length c1), (.int .i64 is), (.slice A2 xs.length c2)]) B3.out 0 _ rfl) 1 _ rfl) (by decide) _ _) (q0o (cs := #[(.string ky), (.string nm), (.slice A1 ts.length c1), (.int .i64 is), (.slice A2 xs.length c2)]) (cs' := #[(.string ky), (.string nm), (.slice A1 ts.length c1), (.int .i64 is), (.slice A2 xs.length c2)]) (q0o (cs := #[(.string ky), (.string nm), (.slice A1 ts.length c1), (.int .i64 is), (.slice A2 xs.length c2)]) (cs' := #[(.string ky), (.string nm), (.slice A1 ts.length c1), (.int .i64 is), (.slice A2 xs.length c2)]) (q0o (cs := #[(.string ky), (.string nm), (.slice A1 ts.length c1), (.int .i64 is), (.slice A2 xs.length c2)]) (cs' := #[(.string ky), (.string nm), (.slice A1 ts.length c1), (.int .i64 is), (.slice A2 xs.length c2)]) B3.out 0 _ rfl) 1 _ rfl) 2 _ rfl) (by decide) _ _) (q0o (cs := #[(.string ky), (.string nm), (.slice A1 ts.length c1), (.int .i64 is), (.slice A2 xs.length c2)]) (cs' := #[(.string ky), (.string nm), (.slice A1 ts.length c1), (.int .i64 0), (.slice A2 xs.length c2)]) (q0o (cs := #[(.string ky), (.string nm), (.slice A1 ts.length c1), (.int .i64 is), (.slice A2 xs.length c2)]) (cs' := #[(.string ky), (.string nm), (.slice A1 ts.length c1), (.int .i64 is), (.slice A2 xs.length c2)]) (q0o (cs := #[(.string ky), (.string nm), (.slice A1 ts.length c1), (.int .i64 is), (.slice A2 xs.length c2)]) (cs' := #[(.string ky), (.string nm), (.slice A1 ts.length c1), (.int .i64 is), (.slice A2 xs.length c2)]) (q0o (cs := #[(.string ky), (.string nm), (.slice A1 ts.length c1), (.int .i64 is), (.slice A2 xs.length c2)]) (cs' := #[(.string ky), (.string nm), (.slice A1 ts.length c1), (.int .i64 is), (.slice A2 xs.length c2)]) B3.out 0 _ rfl) 1 _ rfl) 2 _ rfl) 3 _ rfl) (by decide) _ _)); have XB := am (show Below w.heap.size w (((((w3.setCell ⟨w.heap.size, 0, none⟩ (.string ky)).setCell ⟨w.heap.size, 1, none⟩ (.string nm)).setCell ⟨w.heap.size, 2, none⟩ (.slice A1 ts.length c1)).setCell ⟨w.heap.size, 3, none⟩ (.int .i64 0)).setCell ⟨w.heap.size, 4, none⟩ (.slice A3 ys.length c3)) from (q0n (q0n (q0n (q0n (q0n HB.out (Nat.le_refl _)) (Nat.le_refl _)) (Nat.le_refl _)) (Nat.le_refl _)) (Nat.le_refl _))); refine (callsIn_wide.2 (tok_calls (w.heap.size + 1 + 1) a5 A3 c3 ys _ (q1c.reads XR.out HC.out XB.out) (by have h_ := l0.out; (try dsimp only at h_); omega) X5.out)).mono ?_; rintro e w4 ⟨rfl, hb⟩; rw [HN.out]; have Y3 := am (q0b X3.out hb); have Y4 := am (q0b X4.out hb); have Y5 := am (q0b X5.out hb); have Y6 := am (q0b X6.out hb); have Y7 := am (q0b X7.out hb); have Y8 := am (q0b X8.out hb); have YR := am (q1c.below XR.out hb); have YB := am (q0j XB.out hb); have s6 := am (show w.heap.size + 6 ≤ w4.heap.size by have b9 := hb.size; have a7 := s5.out; simp at b9; omega); clear HB H3 XR XB hb k5 B3 X3 B4 X4 B5 X5 B6 X6 B7 X7 B8 X8 b0 b1 b2 b3 b4 m6 m7 m8 m9 j4; have B3 := Y3; have B4 := Y4; have B5 := Y5; have B6 := Y6; have B7 := Y7; have B8 := Y8; have H3 := YR; have HB := YB; clear YR YB Y3 Y4 Y5 Y6 Y7 Y8; obtain ⟨b0, b1, b2, b3, b4⟩ := ce5 B3.out) | (refine ⟨trivial, ?_⟩; gi_at_call 43; refine (callsIn_wide.2 (q4s ky nm A1 ts.length c1 0 A3 ys.length c3 _)).mono ?_; rintro e w5 ⟨gb, rfl, hg, l4, hb⟩; have s3 := am l4; have YR := am (q1c.below H3.out hb); have YB := am (q0j HB.out hb); have HS := am (show w.heap.size + 6 ≤ w5.heap.size by have b9 := hb.size; have a7 := s6.out; omega); have Y3 := am (q0b B3.out hb); have Y4 := am (q0b B4.out hb); have Y5 := am (q0b B5.out hb); have Y6 := am (q0b B6.out hb); have Y7 := am (q0b B7.out hb); have Y8 := am (q0b B8.out hb); clear HB H3 hg l4 hb B3 B4 B5 B6 B7 B8 b0 b1 b2 b3 b4; have B3 := Y3; have B4 := Y4; have B5 := Y5; have B6 := Y6; have B7 := Y7; have B8 := Y8; have HB := YB; have H3 := YR; clear YB YR Y3 Y4 Y5 Y6 Y7 Y8))
 refine wpIn_rangeFunc_ownH (w0 := w5) rfl (by omega) (gf := 78) (lb := #[.pointer (some ⟨gb, 0, none⟩)]) rfl trivial (enters_of Try.func78 (by kernel_rfl) rfl)
  (q5d 5 (by omega) gb ky nm A1 ts.length c1 0 A3 c3 ys w5 w5 (q1c.reads H3.out HC.out HB.out) (by have h_ := l0.out; (try dsimp only at h_); omega) (Below.refl _ _) s3.out) belowK_t (belowK_b (Nat.le_refl _)) (Below.refl _ _) (fun _ => rfl)
  (fun k8 W => ((W.heap[w.heap.size]? = some (.cells (#[(.string ky), (.string nm), (.slice A1 ts.length c1), (.int .i64 0), (.slice A3 ys.length c3)] : Array Value) 27 (0, 0))) ∧ (W.heap[w.heap.size + 1]? = some (.cells (#[(.int .i64 now)] : Array Value) 3 (0, 0))) ∧ (W.heap[w.heap.size + 1 + 1]? = some (.cells (#[(.int .i64 a5)] : Array Value) 3 (0, 0))) ∧ (W.heap[w.heap.size + 1 + 1 + 1]? = some (.cells (#[(.string (⟨#[]⟩ : ByteArray)), (.string (⟨#[]⟩ : ByteArray)), (.slice none 0 0), (.int .i64 0), (.slice none 0 0)] : Array Value) 27 (0, 0))) ∧ (W.heap[w.heap.size + 1 + 1 + 1 + 1]? = some (.cells (#[(.int .i64 0)] : Array Value) 3 (0, 0))) ∧ (W.heap[w.heap.size + 1 + 1 + 1 + 1 + 1]? = some (.cells (#[(.int .i64 0)] : Array Value) 29 (0, 0)))) ∧ (Below w.heap.size w W ∧ (Below w5.heap.size w5 W ∧ ∀ y ∈ k8, notOk k ts ys now a5 y)))
  (fun c k8 W => ∃ i0 x p, k8 = i0 ++ [x] ∧ (∀ y ∈ i0, notOk k ts ys now a5 y) ∧ leaseO k (q0e ts (x.val : Int)) (q0c ys (x.val : Int)) now a5 = some p ∧ p.2 = 0 ∧ c = .ret ∧ Below w.heap.size w W ∧ ∃ A c, W.heap[w.heap.size + 1 + 1 + 1]? = some (.cells (#[(.string ky), (.string nm), (.slice A1 ts.length c1), (.int .i64 0), (.slice A ys.length c)] : Array Value) 27 (0, 0)) ∧ W.heap[w.heap.size + 1 + 1 + 1 + 1]? = some (.cells (#[(.int .i64 ((x.val : Nat) : Int))] : Array Value) 3 (0, 0)) ∧ W.heap[w.heap.size + 1 + 1 + 1 + 1 + 1]? = some (.cells (#[(.int .i64 0)] : Array Value) 29 (0, 0)) ∧ Kd.R k51 51 W w.heap.size (fun _ => True) (.slice A ys.length c) (ys.set x.val p.1))
  (OwnFrom.and (Own.from (fun s A B o5 hs hg hr => ⟨q1d hs.1 hg hr, q1d hs.2.1 hg hr, q1d hs.2.2.1 hg hr, q1d hs.2.2.2.1 hg hr, q1d hs.2.2.2.2.1 hg hr, q1d hs.2.2.2.2.2 hg hr⟩) _) (OwnFrom.and (ownFrom_below (Nat.le_refl _) (by have := HS.out; omega)) (OwnFrom.and (ownFrom_below (Nat.le_refl _) (Nat.le_refl _)) (fun _ _ _ _ hs _ _ => hs))))
  (fun c => fun s A B o5 hs hg hr => by
   obtain ⟨i0, x, p, e1, e2, e3, e4, e5, e6, Aq, cq, h3, h4, h5, h6⟩ := hs
   have n0 := fun r e => (hr r e).2
   exact ⟨i0, x, p, e1, e2, e3, e4, e5, (ownFrom_below (β := Unit) (Nat.le_refl _) (by have := HS.out; omega)) () A B o5 e6 hg hr, Aq, cq, q1d h3 hg n0, q1d h4 hg n0, q1d h5 hg n0, own_R h6 hg n0⟩)
  ⟨⟨B3.out, B4.out, B5.out, B6.out, B7.out, B8.out⟩, HB.out, Below.refl _ _, fun y hy => by cases hy⟩
  (fun x a' W => ∃ Bx, w5.heap.size ≤ Bx ∧ W.heap[Bx]? = some (.cells #[.int .i64 (q0c ys (x.val : Int)).f0, .int .i64 (q0c ys (x.val : Int)).f1, .int .i64 (q0c ys (x.val : Int)).f2, .int .i64 (q0c ys (x.val : Int)).f3, .string (q0c ys (x.val : Int)).f4] 51 (0, 0)) ∧ a' = { tmps := #[.agg #[(.string ky), (.string nm), (.slice A1 ts.length c1), (.int .i64 is), (.slice A2 xs.length c2)], .int .i64 now, .int .i64 a5, .pointer (some ⟨w.heap.size, 0, none⟩), .pointer (some ⟨w.heap.size + 1, 0, none⟩), .pointer (some ⟨w.heap.size + 1 + 1, 0, none⟩), .pointer (some ⟨w.heap.size + 1 + 1 + 1, 0, none⟩), .pointer (some ⟨w.heap.size + 1 + 1 + 1 + 1, 0, none⟩), .pointer (some ⟨w.heap.size + 1 + 1 + 1 + 1 + 1, 0, none⟩), .int .i64 0, .int .i64 ((x.val : Nat) : Int), .pointer (some ⟨Bx, 0, none⟩), undef, undef, .tuple #[.agg #[(.string ky), (.string nm), (.slice A1 ts.length c1), (.int .i64 0), (.slice A3 ys.length c3)], .int .i64 0], .agg #[(.string ky), (.string nm), (.slice A1 ts.length c1), (.int .i64 is), (.slice A2 xs.length c2)], .int .i64 now, .tuple #[.agg #[(.string ky), (.string nm), (.slice A1 ts.length c1), (.int .i64 0), (.slice A3 ys.length c3)], .int .i64 0], .agg #[(.string ky), (.string nm), (.slice A1 ts.length c1), (.int .i64 0), (.slice A3 ys.length c3)], .int .i64 0, .bool false, .int .i64 0, .bool false, undef, undef, .bool false, .int .i64 a5, .bool false, .bool false, .int .i64 a5, .bool false, .bool false, .bool false, .pointer (some ⟨w.heap.size, 4, none⟩), .slice A3 ys.length c3, .func (.func 62) #[] #[.pointer (some ⟨w.heap.size + 1 + 1, 0, none⟩)], .bool false, .bool false, undef, .bool false, .pointer (some ⟨w.heap.size, 3, none⟩), .int .i64 0, .bool false, undef, .agg #[(.string ky), (.string nm), (.slice A1 ts.length c1), (.int .i64 0), (.slice A3 ys.length c3)], .func (.func 78) #[] #[.pointer (some ⟨gb, 0, none⟩)], .int .i64 ((x.val : Nat) : Int), .agg #[.int .i64 (q0c ys (x.val : Int)).f0, .int .i64 (q0c ys (x.val : Int)).f1, .int .i64 (q0c ys (x.val : Int)).f2, .int .i64 (q0c ys (x.val : Int)).f3, .string (q0c ys (x.val : Int)).f4], undef, undef, undef, undef, undef, undef, undef, undef, undef, undef, undef, undef, undef, undef, undef, undef, undef, undef, undef, undef, undef, undef, undef, undef, undef, undef, undef], defers := [] })
  (fun x a' => Own.from (fun s A B o5 hs hg hr => by obtain ⟨Bx, h1, h2, h3⟩ := hs; exact ⟨Bx, h1, q1d h2 hg hr, h3⟩) _) ?assign ?body ?done ?stop
 case assign =>
  rintro l k8 x W K ⟨⟨h3, h4, h5, h6, h7, h8⟩, hB, k6, hN⟩ hK
  have Z3 := am h3
  have Z4 := am h4
  have Z5 := am h5
  have Z6 := am h6
  have Z7 := am h7
  have Z8 := am h8
  have h0 := am hB
  have a9 := am k6
  have m2 := am hN
  clear h3 h4 h5 h6 h7 h8 hB k6 hN
  dsimp only [encF]
  gi_wp2
  exact hK _ _ ((KeepsOthers.alloc _ _).from _) ((Below.refl _ W).alloc a9.out.size _) ⟨⟨q0h Z3.out _, q0h Z4.out _, q0h Z5.out _, q0h Z6.out _, q0h Z7.out _, q0h Z8.out _⟩, q0d h0.out _, q0d a9.out _, m2.out⟩ ⟨W.heap.size, a9.out.size, q1j _ _, rfl⟩
 case body =>
  rintro l k8 x a' W hl hr ⟨⟨h3, h4, h5, h6, h7, h8⟩, hB, k6, hN⟩ ⟨Bx, s9, bX, rfl⟩ t6
  have Z3 := am h3
  have Z4 := am h4
  have Z5 := am h5
  have Z6 := am h6
  have Z7 := am h7
  have Z8 := am h8
  have h0 := am hB
  have a9 := am k6
  have m2 := am hN
  have HX := am bX
  clear h3 h4 h5 h6 h7 h8 hB k6 hN bX hr hl t6 s9
  obtain ⟨p, hp⟩ := Option.isSome_iff_exists.1 (List.all_eq_true.1 HG.out x (List.mem_finRange x))
  have p6 := am hp
  have HP := am (leaseO_f hp)
  have HI := am x.isLt
  clear hp
  have p0 : (0 : Int) ≤ ((x.val : Nat) : Int) := by omega
  have p1 : ((x.val : Nat) : Int) < (ys.length : Int) := by have := HI.out; omega
  have p2 : ((x.val : Nat) : Int) < (ts.length : Int) := by have h_ := l0.out; have := HI.out; (try dsimp only at h_); omega
  obtain ⟨ad, A0, c0, eA, a0, a1, a2, a3, q9, q8⟩ := q1q (Kd.C_below HT.out h0.out) ((x.val : Nat) : Int) p0 p2
  rw [Int.toNat_natCast] at a0 a1 a2 a3
  have p9 := am q9
  have p8 := am q8
  clear q9 q8
  subst eA
  have x0 : W.cell? ⟨Bx, 0, none⟩ = some (.int .i64 (q0c ys (x.val : Int)).f0) := bc HX.out
  have x1 : W.cell? ⟨Bx, 1, none⟩ = some (.int .i64 (q0c ys (x.val : Int)).f1) := bc HX.out
  have x2 : W.cell? ⟨Bx, 2, none⟩ = some (.int .i64 (q0c ys (x.val : Int)).f2) := bc HX.out
  have x3 : W.cell? ⟨Bx, 3, none⟩ = some (.int .i64 (q0c ys (x.val : Int)).f3) := bc HX.out
  have x4 : W.cell? ⟨Bx, 4, none⟩ = some (.string (q0c ys (x.val : Int)).f4) := bc HX.out
  have k4 : W.cell? ⟨w.heap.size + 1, 0, none⟩ = some (.int .i64 now) := bc Z4.out
  have k5 : W.cell? ⟨w.heap.size + 1 + 1, 0, none⟩ = some (.int .i64 a5) := bc Z5.out
  have l2 : W.cell? ⟨w.heap.size, 2, none⟩ = some (.slice (some ad) ts.length c1) := bc Z3.out
  gi_wp2
  generalize r7 : q0c ys ((x.val : Nat) : Int) = s at *
  generalize r8 : q0e ts ((x.val : Nat) : Int) = t at *
  have p7 := am r7
  have q1 := am r8
  clear r7 r8
  have a4 := am (fun (W' : World) (hW : Below W.heap.size W W') (a : Addr) (v : Value) (h : W.cell? a = some v) => show W'.cell? a = some v from (hW.cell (World.block_lt_of_cell? W _ h)).trans h)
  refine q1v (n := 16) (S := fun w' => w'.cell? ⟨w.heap.size, 2, none⟩ = some (.slice (some ad) ts.length c1) ∧ w'.cell? (ad.add (x.val * 4)) = some (.slice A0 t.f0.length c0) ∧ w'.cell? ⟨(ad.add (x.val * 4)).block, (ad.add (x.val * 4)).off + 1, none⟩ = some (.int .i64 t.f1) ∧ w'.cell? ⟨(ad.add (x.val * 4)).block, (ad.add (x.val * 4)).off + 2, none⟩ = some (.int .i64 t.f2) ∧ w'.cell? ⟨(ad.add (x.val * 4)).block, (ad.add (x.val * 4)).off + 3, none⟩ = some (.int .i64 t.f3) ∧ w'.cell? ⟨Bx, 0, none⟩ = some (.int .i64 s.f0) ∧ w'.cell? ⟨Bx, 1, none⟩ = some (.int .i64 s.f1) ∧ w'.cell? ⟨Bx, 2, none⟩ = some (.int .i64 s.f2) ∧ w'.cell? ⟨Bx, 3, none⟩ = some (.int .i64 s.f3) ∧ w'.cell? ⟨Bx, 4, none⟩ = some (.string s.f4) ∧ w'.cell? ⟨w.heap.size + 1, 0, none⟩ = some (.int .i64 now) ∧ w'.cell? ⟨w.heap.size + 1 + 1, 0, none⟩ = some (.int .i64 a5)) (ds := [14]) (ba 16 0) (by kernel_rfl) rfl rfl ⟨(a4.out _ (q0a (Below.refl _ _)) _ _ l2), (a4.out _ (q0a (Below.refl _ _)) _ _ a0), (a4.out _ (q0a (Below.refl _ _)) _ _ a1), (a4.out _ (q0a (Below.refl _ _)) _ _ a2), (a4.out _ (q0a (Below.refl _ _)) _ _ a3), (a4.out _ (q0a (Below.refl _ _)) _ _ x0), (a4.out _ (q0a (Below.refl _ _)) _ _ x1), (a4.out _ (q0a (Below.refl _ _)) _ _ x2), (a4.out _ (q0a (Below.refl _ _)) _ _ x3), (a4.out _ (q0a (Below.refl _ _)) _ _ x4), (a4.out _ (q0a (Below.refl _ _)) _ _ k4), (a4.out _ (q0a (Below.refl _ _)) _ _ k5)⟩ ?_ (by kernel_rfl) (fun b5 => ?_)
  ·
   rintro ⟨_, _, h_⟩; exact h_
  refine ph 0 49 (ba 16 1) ?_
  refine ph 1 50 (ba 16 3) ?_
  refine ph 3 52 (ba 16 11) ?_
  refine th 2 51 (ba 16 15) b5 ?_
  refine ph 4 53 (ba 16 31) ?_
  refine th 5 54 (ba 16 63) b5 ?_
  refine th 6 55 (ba 16 127) b5 ?_
  refine th 7 56 (ba 16 255) b5 ?_
  refine th 8 57 (ba 16 511) b5 ?_
  refine join_ (σ := Nat) 2 (ba 16 16383) (fun s_ => [(58, .tuple #[.agg #[(.int .i64 p.1.f0), (.int .i64 p.1.f1), (.int .i64 p.1.f2), (.int .i64 p.1.f3), (.string p.1.f4)], .int .i64 p.2]), (48, .tuple #[.agg #[(.int .i64 p.1.f0), (.int .i64 p.1.f1), (.int .i64 p.1.f2), (.int .i64 p.1.f3), (.string p.1.f4)], .int .i64 p.2]), (59, .agg #[(.int .i64 p.1.f0), (.int .i64 p.1.f1), (.int .i64 p.1.f2), (.int .i64 p.1.f3), (.string p.1.f4)]), (60, .int .i64 p.2), (12, .pointer (some ⟨s_, 0, none⟩))]) (fun s_ w' => (w'.cell? ⟨w.heap.size, 2, none⟩ = some (.slice (some ad) ts.length c1) ∧ w'.cell? (ad.add (x.val * 4)) = some (.slice A0 t.f0.length c0) ∧ w'.cell? ⟨(ad.add (x.val * 4)).block, (ad.add (x.val * 4)).off + 1, none⟩ = some (.int .i64 t.f1) ∧ w'.cell? ⟨(ad.add (x.val * 4)).block, (ad.add (x.val * 4)).off + 2, none⟩ = some (.int .i64 t.f2) ∧ w'.cell? ⟨(ad.add (x.val * 4)).block, (ad.add (x.val * 4)).off + 3, none⟩ = some (.int .i64 t.f3) ∧ w'.cell? ⟨Bx, 0, none⟩ = some (.int .i64 s.f0) ∧ w'.cell? ⟨Bx, 1, none⟩ = some (.int .i64 s.f1) ∧ w'.cell? ⟨Bx, 2, none⟩ = some (.int .i64 s.f2) ∧ w'.cell? ⟨Bx, 3, none⟩ = some (.int .i64 s.f3) ∧ w'.cell? ⟨Bx, 4, none⟩ = some (.string s.f4) ∧ w'.cell? ⟨w.heap.size + 1, 0, none⟩ = some (.int .i64 now) ∧ w'.cell? ⟨w.heap.size + 1 + 1, 0, none⟩ = some (.int .i64 a5)) ∧ W.heap.size ≤ s_ ∧ w'.heap[s_]? = some (.cells #[(.int .i64 0), (.int .i64 0), (.int .i64 0), (.int .i64 0), (.string (⟨#[]⟩ : ByteArray))] 51 (0, 0)) ∧ Below W.heap.size W w') ?_ ?_
  rotate_left
  ·
   intro k0
   refine two_ (i := 9) (j := 13) (Ni := some 58) (Nj := some 12) (ba 16 1023) (ba 16 8703) rfl rfl rfl rfl (by kernel_rfl) (by decide) (by decide) (fun K hK => ?_) (fun K hK => ?_)
   ·
    skip
    refine q2c Try.func63 (by kernel_rfl) rfl #[.agg #[.slice A0 t.f0.length c0, .int .i64 t.f1, .int .i64 t.f2, .int .i64 t.f3], .agg #[(.int .i64 s.f0), (.int .i64 s.f1), (.int .i64 s.f2), (.int .i64 s.f3), (.string s.f4)], .int .i64 now, .int .i64 a5] (by rfl) rfl rfl (by simp only [List.map_toArray, List.map_cons, List.map_nil]; rfl) ?_
    with_reducible refine (X.Fq.calls k A0 c0 t.f0 t.f1 t.f2 t.f3 s.f0 s.f1 s.f2 s.f3 s.f4 now a5 _ _ _ _ _ _ _ (Kd.C_below p8.out (by (with_reducible repeat (first | apply q0d | apply q0a)); exact Below.refl W.heap.size W)) p9.out HP.out).mono ?_
    rintro e w7 ⟨rfl, hb⟩
    refine ⟨_, rfl, ?_⟩
    have a8 := am (q0j (by (with_reducible repeat (first | apply q0d | apply q0a)); exact Below.refl W.heap.size W) hb)
    clear hb
    refine hK.out _ _ ⟨(a4.out _ (a8.out) _ _ l2), (a4.out _ (a8.out) _ _ a0), (a4.out _ (a8.out) _ _ a1), (a4.out _ (a8.out) _ _ a2), (a4.out _ (a8.out) _ _ a3), (a4.out _ (a8.out) _ _ x0), (a4.out _ (a8.out) _ _ x1), (a4.out _ (a8.out) _ _ x2), (a4.out _ (a8.out) _ _ x3), (a4.out _ (a8.out) _ _ x4), (a4.out _ (a8.out) _ _ k4), (a4.out _ (a8.out) _ _ k5)⟩ (fun b5 => ?_)
    clear hK K
    refine nh ?_
    refine ph 10 48 (ba 16 2047) ?_
    refine ph 11 59 (ba 16 4095) ?_
    refine ph 12 60 (ba 16 8191) ?_
    refine oh 13 12 (ba 16 16383) fun K hK => ?_
    refine value_ (w1 := ?_) (v := ?_) (by rfl) rfl ?_ ?_
    rotate_left 2
    ·
     go_simp
     constructor
     ·
      rfl
     rfl
    refine hK.out _ _ ⟨(a4.out _ (q0d (a8.out) _) _ _ l2), (a4.out _ (q0d (a8.out) _) _ _ a0), (a4.out _ (q0d (a8.out) _) _ _ a1), (a4.out _ (q0d (a8.out) _) _ _ a2), (a4.out _ (q0d (a8.out) _) _ _ a3), (a4.out _ (q0d (a8.out) _) _ _ x0), (a4.out _ (q0d (a8.out) _) _ _ x1), (a4.out _ (q0d (a8.out) _) _ _ x2), (a4.out _ (q0d (a8.out) _) _ _ x3), (a4.out _ (q0d (a8.out) _) _ _ x4), (a4.out _ (q0d (a8.out) _) _ _ k4), (a4.out _ (q0d (a8.out) _) _ _ k5)⟩ (fun b5 => ?_)
    clear hK K
    refine nh ?_
    exact norm_ (by simp only [putAll, Act.put, List.setIfInBounds_toArray, List.set_cons_zero, List.set_cons_succ]) (k0 w7.heap.size _ ⟨b5, a8.out.size, q1j w7 (.cells #[(.int .i64 0), (.int .i64 0), (.int .i64 0), (.int .i64 0), (.string (⟨#[]⟩ : ByteArray))] 51), q0d a8.out _⟩)
   skip
   refine value_ (w1 := ?_) (v := ?_) (by rfl) rfl ?_ ?_
   rotate_left 2
   ·
    go_simp
    constructor
    ·
     rfl
    rfl
   refine hK.out _ _ ⟨(a4.out _ (q0d (q0a (Below.refl _ _)) _) _ _ l2), (a4.out _ (q0d (q0a (Below.refl _ _)) _) _ _ a0), (a4.out _ (q0d (q0a (Below.refl _ _)) _) _ _ a1), (a4.out _ (q0d (q0a (Below.refl _ _)) _) _ _ a2), (a4.out _ (q0d (q0a (Below.refl _ _)) _) _ _ a3), (a4.out _ (q0d (q0a (Below.refl _ _)) _) _ _ x0), (a4.out _ (q0d (q0a (Below.refl _ _)) _) _ _ x1), (a4.out _ (q0d (q0a (Below.refl _ _)) _) _ _ x2), (a4.out _ (q0d (q0a (Below.refl _ _)) _) _ _ x3), (a4.out _ (q0d (q0a (Below.refl _ _)) _) _ _ x4), (a4.out _ (q0d (q0a (Below.refl _ _)) _) _ _ k4), (a4.out _ (q0d (q0a (Below.refl _ _)) _) _ _ k5)⟩ (fun b5 => ?_)
   clear hK K
   refine nh ?_
   refine oh 9 58 (ba 16 9215) fun K hK => ?_
   refine q2c Try.func63 (by kernel_rfl) rfl #[.agg #[.slice A0 t.f0.length c0, .int .i64 t.f1, .int .i64 t.f2, .int .i64 t.f3], .agg #[(.int .i64 s.f0), (.int .i64 s.f1), (.int .i64 s.f2), (.int .i64 s.f3), (.string s.f4)], .int .i64 now, .int .i64 a5] (by rfl) rfl rfl (by simp only [List.map_toArray, List.map_cons, List.map_nil]; rfl) ?_
   with_reducible refine (X.Fq.calls k A0 c0 t.f0 t.f1 t.f2 t.f3 s.f0 s.f1 s.f2 s.f3 s.f4 now a5 _ _ _ _ _ _ _ (Kd.C_below p8.out (by (with_reducible repeat (first | apply q0d | apply q0a)); exact Below.refl W.heap.size W)) p9.out HP.out).mono ?_
   rintro e w7 ⟨rfl, hb⟩
   refine ⟨_, rfl, ?_⟩
   have a8 := am (q0j (by (with_reducible repeat (first | apply q0d | apply q0a)); exact Below.refl W.heap.size W) hb)
   have s4 := am (q0b (show (W.alloc (.cells #[(.int .i64 0), (.int .i64 0), (.int .i64 0), (.int .i64 0), (.string (⟨#[]⟩ : ByteArray))] 51)).drew.heap[W.heap.size]? = some (.cells #[(.int .i64 0), (.int .i64 0), (.int .i64 0), (.int .i64 0), (.string (⟨#[]⟩ : ByteArray))] 51 (0, 0)) from q0g (q1j W (.cells #[(.int .i64 0), (.int .i64 0), (.int .i64 0), (.int .i64 0), (.string (⟨#[]⟩ : ByteArray))] 51))) hb)
   clear hb
   refine hK.out _ _ ⟨(a4.out _ (a8.out) _ _ l2), (a4.out _ (a8.out) _ _ a0), (a4.out _ (a8.out) _ _ a1), (a4.out _ (a8.out) _ _ a2), (a4.out _ (a8.out) _ _ a3), (a4.out _ (a8.out) _ _ x0), (a4.out _ (a8.out) _ _ x1), (a4.out _ (a8.out) _ _ x2), (a4.out _ (a8.out) _ _ x3), (a4.out _ (a8.out) _ _ x4), (a4.out _ (a8.out) _ _ k4), (a4.out _ (a8.out) _ _ k5)⟩ (fun b5 => ?_)
   clear hK K
   refine nh ?_
   refine ph 10 48 (ba 16 10239) ?_
   refine ph 11 59 (ba 16 12287) ?_
   refine ph 12 60 (ba 16 16383) ?_
   exact norm_ (by simp only [putAll, Act.put, List.setIfInBounds_toArray, List.set_cons_zero, List.set_cons_succ]) (k0 W.heap.size _ ⟨b5, Nat.le_refl _, s4.out, a8.out⟩)
  rintro a6 w7 ⟨q7, r3, r0, r1⟩
  have c7 := am r3
  have BP := am r0
  have a8 := am r1
  have b5 := q7
  clear r3 r0 r1 q7
  have y0 : w7.cell? ⟨a6, 0, none⟩ = some (.int .i64 0) := bc BP.out
  have y1 : w7.cell? ⟨a6, 1, none⟩ = some (.int .i64 0) := bc BP.out
  have y2 : w7.cell? ⟨a6, 2, none⟩ = some (.int .i64 0) := bc BP.out
  have y3 : w7.cell? ⟨a6, 3, none⟩ = some (.int .i64 0) := bc BP.out
  have y4 : w7.cell? ⟨a6, 4, none⟩ = some (.string (⟨#[]⟩ : ByteArray)) := bc BP.out
  have v0 := q0k BP.out 0
  have v1 := q0k BP.out 1
  have v2 := q0k BP.out 2
  have v4 := q0k BP.out 3
  have v5 := q0k BP.out 4
  refine norm_ (a' := ?_) ?_ ?_
  rotate_left
  ·
   simp only [putAll, Act.put, List.setIfInBounds_toArray, List.set_cons_zero, List.set_cons_succ]
   rfl
  refine last_ (i := 14) (N := none) (ba 16 32767) rfl rfl (by kernel_rfl) (by decide) (fun K hK => ?_)
  refine skip_ (w1 := ?_) (by rfl) rfl ?_ ?_
  rotate_left
  ·
   go_simp
   rfl
  refine hK.out _ _ ?_
  clear hK K
  refine ph 15 13 (ba 16 65535) ?_
  refine q2a (by kernel_rfl) ?_
  have X3 := am (show (((((w7.setCell ⟨a6, 0, none⟩ (.int .i64 p.1.f0)).setCell ⟨a6, 1, none⟩ (.int .i64 p.1.f1)).setCell ⟨a6, 2, none⟩ (.int .i64 p.1.f2)).setCell ⟨a6, 3, none⟩ (.int .i64 p.1.f3)).setCell ⟨a6, 4, none⟩ (.string p.1.f4)).heap[w.heap.size]? = some (.cells (#[(.string ky), (.string nm), (.slice (some ad) ts.length c1), (.int .i64 0), (.slice A3 ys.length c3)] : Array Value) 27 (0, 0)) from (q0l (q0l (q0l (q0l (q0l (q0b Z3.out a8.out) (by have b9 := c7.out; have a7 := a9.out.size; have d7 := HS.out; show w.heap.size ≠ a6; omega) _) (by have b9 := c7.out; have a7 := a9.out.size; have d7 := HS.out; show w.heap.size ≠ a6; omega) _) (by have b9 := c7.out; have a7 := a9.out.size; have d7 := HS.out; show w.heap.size ≠ a6; omega) _) (by have b9 := c7.out; have a7 := a9.out.size; have d7 := HS.out; show w.heap.size ≠ a6; omega) _) (by have b9 := c7.out; have a7 := a9.out.size; have d7 := HS.out; show w.heap.size ≠ a6; omega) _))
  have X4 := am (show (((((w7.setCell ⟨a6, 0, none⟩ (.int .i64 p.1.f0)).setCell ⟨a6, 1, none⟩ (.int .i64 p.1.f1)).setCell ⟨a6, 2, none⟩ (.int .i64 p.1.f2)).setCell ⟨a6, 3, none⟩ (.int .i64 p.1.f3)).setCell ⟨a6, 4, none⟩ (.string p.1.f4)).heap[w.heap.size + 1]? = some (.cells (#[(.int .i64 now)] : Array Value) 3 (0, 0)) from (q0l (q0l (q0l (q0l (q0l (q0b Z4.out a8.out) (by have b9 := c7.out; have a7 := a9.out.size; have d7 := HS.out; show w.heap.size + 1 ≠ a6; omega) _) (by have b9 := c7.out; have a7 := a9.out.size; have d7 := HS.out; show w.heap.size + 1 ≠ a6; omega) _) (by have b9 := c7.out; have a7 := a9.out.size; have d7 := HS.out; show w.heap.size + 1 ≠ a6; omega) _) (by have b9 := c7.out; have a7 := a9.out.size; have d7 := HS.out; show w.heap.size + 1 ≠ a6; omega) _) (by have b9 := c7.out; have a7 := a9.out.size; have d7 := HS.out; show w.heap.size + 1 ≠ a6; omega) _))
  have X5 := am (show (((((w7.setCell ⟨a6, 0, none⟩ (.int .i64 p.1.f0)).setCell ⟨a6, 1, none⟩ (.int .i64 p.1.f1)).setCell ⟨a6, 2, none⟩ (.int .i64 p.1.f2)).setCell ⟨a6, 3, none⟩ (.int .i64 p.1.f3)).setCell ⟨a6, 4, none⟩ (.string p.1.f4)).heap[w.heap.size + 1 + 1]? = some (.cells (#[(.int .i64 a5)] : Array Value) 3 (0, 0)) from (q0l (q0l (q0l (q0l (q0l (q0b Z5.out a8.out) (by have b9 := c7.out; have a7 := a9.out.size; have d7 := HS.out; show w.heap.size + 1 + 1 ≠ a6; omega) _) (by have b9 := c7.out; have a7 := a9.out.size; have d7 := HS.out; show w.heap.size + 1 + 1 ≠ a6; omega) _) (by have b9 := c7.out; have a7 := a9.out.size; have d7 := HS.out; show w.heap.size + 1 + 1 ≠ a6; omega) _) (by have b9 := c7.out; have a7 := a9.out.size; have d7 := HS.out; show w.heap.size + 1 + 1 ≠ a6; omega) _) (by have b9 := c7.out; have a7 := a9.out.size; have d7 := HS.out; show w.heap.size + 1 + 1 ≠ a6; omega) _))
  have X6 := am (show (((((w7.setCell ⟨a6, 0, none⟩ (.int .i64 p.1.f0)).setCell ⟨a6, 1, none⟩ (.int .i64 p.1.f1)).setCell ⟨a6, 2, none⟩ (.int .i64 p.1.f2)).setCell ⟨a6, 3, none⟩ (.int .i64 p.1.f3)).setCell ⟨a6, 4, none⟩ (.string p.1.f4)).heap[w.heap.size + 1 + 1 + 1]? = some (.cells (#[(.string (⟨#[]⟩ : ByteArray)), (.string (⟨#[]⟩ : ByteArray)), (.slice none 0 0), (.int .i64 0), (.slice none 0 0)] : Array Value) 27 (0, 0)) from (q0l (q0l (q0l (q0l (q0l (q0b Z6.out a8.out) (by have b9 := c7.out; have a7 := a9.out.size; have d7 := HS.out; show w.heap.size + 1 + 1 + 1 ≠ a6; omega) _) (by have b9 := c7.out; have a7 := a9.out.size; have d7 := HS.out; show w.heap.size + 1 + 1 + 1 ≠ a6; omega) _) (by have b9 := c7.out; have a7 := a9.out.size; have d7 := HS.out; show w.heap.size + 1 + 1 + 1 ≠ a6; omega) _) (by have b9 := c7.out; have a7 := a9.out.size; have d7 := HS.out; show w.heap.size + 1 + 1 + 1 ≠ a6; omega) _) (by have b9 := c7.out; have a7 := a9.out.size; have d7 := HS.out; show w.heap.size + 1 + 1 + 1 ≠ a6; omega) _))
  have X7 := am (show (((((w7.setCell ⟨a6, 0, none⟩ (.int .i64 p.1.f0)).setCell ⟨a6, 1, none⟩ (.int .i64 p.1.f1)).setCell ⟨a6, 2, none⟩ (.int .i64 p.1.f2)).setCell ⟨a6, 3, none⟩ (.int .i64 p.1.f3)).setCell ⟨a6, 4, none⟩ (.string p.1.f4)).heap[w.heap.size + 1 + 1 + 1 + 1]? = some (.cells (#[(.int .i64 0)] : Array Value) 3 (0, 0)) from (q0l (q0l (q0l (q0l (q0l (q0b Z7.out a8.out) (by have b9 := c7.out; have a7 := a9.out.size; have d7 := HS.out; show w.heap.size + 1 + 1 + 1 + 1 ≠ a6; omega) _) (by have b9 := c7.out; have a7 := a9.out.size; have d7 := HS.out; show w.heap.size + 1 + 1 + 1 + 1 ≠ a6; omega) _) (by have b9 := c7.out; have a7 := a9.out.size; have d7 := HS.out; show w.heap.size + 1 + 1 + 1 + 1 ≠ a6; omega) _) (by have b9 := c7.out; have a7 := a9.out.size; have d7 := HS.out; show w.heap.size + 1 + 1 + 1 + 1 ≠ a6; omega) _) (by have b9 := c7.out; have a7 := a9.out.size; have d7 := HS.out; show w.heap.size + 1 + 1 + 1 + 1 ≠ a6; omega) _))
  have X8 := am (show (((((w7.setCell ⟨a6, 0, none⟩ (.int .i64 p.1.f0)).setCell ⟨a6, 1, none⟩ (.int .i64 p.1.f1)).setCell ⟨a6, 2, none⟩ (.int .i64 p.1.f2)).setCell ⟨a6, 3, none⟩ (.int .i64 p.1.f3)).setCell ⟨a6, 4, none⟩ (.string p.1.f4)).heap[w.heap.size + 1 + 1 + 1 + 1 + 1]? = some (.cells (#[(.int .i64 0)] : Array Value) 29 (0, 0)) from (q0l (q0l (q0l (q0l (q0l (q0b Z8.out a8.out) (by have b9 := c7.out; have a7 := a9.out.size; have d7 := HS.out; show w.heap.size + 1 + 1 + 1 + 1 + 1 ≠ a6; omega) _) (by have b9 := c7.out; have a7 := a9.out.size; have d7 := HS.out; show w.heap.size + 1 + 1 + 1 + 1 + 1 ≠ a6; omega) _) (by have b9 := c7.out; have a7 := a9.out.size; have d7 := HS.out; show w.heap.size + 1 + 1 + 1 + 1 + 1 ≠ a6; omega) _) (by have b9 := c7.out; have a7 := a9.out.size; have d7 := HS.out; show w.heap.size + 1 + 1 + 1 + 1 + 1 ≠ a6; omega) _) (by have b9 := c7.out; have a7 := a9.out.size; have d7 := HS.out; show w.heap.size + 1 + 1 + 1 + 1 + 1 ≠ a6; omega) _))
  have XP := am (show (((((w7.setCell ⟨a6, 0, none⟩ (.int .i64 p.1.f0)).setCell ⟨a6, 1, none⟩ (.int .i64 p.1.f1)).setCell ⟨a6, 2, none⟩ (.int .i64 p.1.f2)).setCell ⟨a6, 3, none⟩ (.int .i64 p.1.f3)).setCell ⟨a6, 4, none⟩ (.string p.1.f4)).heap[a6]? = some (.cells #[(.int .i64 p.1.f0), (.int .i64 p.1.f1), (.int .i64 p.1.f2), (.int .i64 p.1.f3), (.string p.1.f4)] 51 (0, 0)) from (q0o (cs := #[(.int .i64 p.1.f0), (.int .i64 p.1.f1), (.int .i64 p.1.f2), (.int .i64 p.1.f3), (.string (⟨#[]⟩ : ByteArray))]) (cs' := #[(.int .i64 p.1.f0), (.int .i64 p.1.f1), (.int .i64 p.1.f2), (.int .i64 p.1.f3), (.string p.1.f4)]) (q0o (cs := #[(.int .i64 p.1.f0), (.int .i64 p.1.f1), (.int .i64 p.1.f2), (.int .i64 0), (.string (⟨#[]⟩ : ByteArray))]) (cs' := #[(.int .i64 p.1.f0), (.int .i64 p.1.f1), (.int .i64 p.1.f2), (.int .i64 p.1.f3), (.string (⟨#[]⟩ : ByteArray))]) (q0o (cs := #[(.int .i64 p.1.f0), (.int .i64 p.1.f1), (.int .i64 0), (.int .i64 0), (.string (⟨#[]⟩ : ByteArray))]) (cs' := #[(.int .i64 p.1.f0), (.int .i64 p.1.f1), (.int .i64 p.1.f2), (.int .i64 0), (.string (⟨#[]⟩ : ByteArray))]) (q0o (cs := #[(.int .i64 p.1.f0), (.int .i64 0), (.int .i64 0), (.int .i64 0), (.string (⟨#[]⟩ : ByteArray))]) (cs' := #[(.int .i64 p.1.f0), (.int .i64 p.1.f1), (.int .i64 0), (.int .i64 0), (.string (⟨#[]⟩ : ByteArray))]) (q0o (cs := #[(.int .i64 0), (.int .i64 0), (.int .i64 0), (.int .i64 0), (.string (⟨#[]⟩ : ByteArray))]) (cs' := #[(.int .i64 p.1.f0), (.int .i64 0), (.int .i64 0), (.int .i64 0), (.string (⟨#[]⟩ : ByteArray))]) BP.out 0 _ rfl) 1 _ rfl) 2 _ rfl) 3 _ rfl) 4 _ rfl))
  have c6 := am (show w5.heap.size ≤ a6 from Nat.le_trans a9.out.size c7.out)
  have l3 := am (show Below w.heap.size w (((((w7.setCell ⟨a6, 0, none⟩ (.int .i64 p.1.f0)).setCell ⟨a6, 1, none⟩ (.int .i64 p.1.f1)).setCell ⟨a6, 2, none⟩ (.int .i64 p.1.f2)).setCell ⟨a6, 3, none⟩ (.int .i64 p.1.f3)).setCell ⟨a6, 4, none⟩ (.string p.1.f4)) from (q0n (q0n (q0n (q0n (q0n (q0j h0.out a8.out) (by have b9 := c6.out; have a7 := HS.out; show w.heap.size ≤ a6; omega)) (by have b9 := c6.out; have a7 := HS.out; show w.heap.size ≤ a6; omega)) (by have b9 := c6.out; have a7 := HS.out; show w.heap.size ≤ a6; omega)) (by have b9 := c6.out; have a7 := HS.out; show w.heap.size ≤ a6; omega)) (by have b9 := c6.out; have a7 := HS.out; show w.heap.size ≤ a6; omega)))
  have q3 := am (show Below w5.heap.size w5 (((((w7.setCell ⟨a6, 0, none⟩ (.int .i64 p.1.f0)).setCell ⟨a6, 1, none⟩ (.int .i64 p.1.f1)).setCell ⟨a6, 2, none⟩ (.int .i64 p.1.f2)).setCell ⟨a6, 3, none⟩ (.int .i64 p.1.f3)).setCell ⟨a6, 4, none⟩ (.string p.1.f4)) from (q0n (q0n (q0n (q0n (q0n (q0j a9.out a8.out) c6.out) c6.out) c6.out) c6.out) c6.out))
  have q5 := am (show Below w5.heap.size W (((((w7.setCell ⟨a6, 0, none⟩ (.int .i64 p.1.f0)).setCell ⟨a6, 1, none⟩ (.int .i64 p.1.f1)).setCell ⟨a6, 2, none⟩ (.int .i64 p.1.f2)).setCell ⟨a6, 3, none⟩ (.int .i64 p.1.f3)).setCell ⟨a6, 4, none⟩ (.string p.1.f4)) from ((((((a8.out.mono a9.out.size).setCell (p := ⟨a6, 0, none⟩) c6.out _).setCell (p := ⟨a6, 1, none⟩) c6.out _).setCell (p := ⟨a6, 2, none⟩) c6.out _).setCell (p := ⟨a6, 3, none⟩) c6.out _).setCell (p := ⟨a6, 4, none⟩) c6.out _))
  have KF := am (show KeepsFrom w5.heap.size W (((((w7.setCell ⟨a6, 0, none⟩ (.int .i64 p.1.f0)).setCell ⟨a6, 1, none⟩ (.int .i64 p.1.f1)).setCell ⟨a6, 2, none⟩ (.int .i64 p.1.f2)).setCell ⟨a6, 3, none⟩ (.int .i64 p.1.f3)).setCell ⟨a6, 4, none⟩ (.string p.1.f4)) from (KeepsFrom.trans (KeepsFrom.trans (KeepsFrom.trans (KeepsFrom.trans (KeepsFrom.trans ((q1b a8.out).from w5.heap.size) ((KeepsOthers.setCell _ _ _).from _)) ((KeepsOthers.setCell _ _ _).from _)) ((KeepsOthers.setCell _ _ _).from _)) ((KeepsOthers.setCell _ _ _).from _)) ((KeepsOthers.setCell _ _ _).from _)))
  clear b5 a4 a8 c7 BP HX k4 k5 l2 x0 x1 x2 x3 x4 a0 a1 a2 a3 y0 y1 y2 y3 y4 v0 v1 v2 v4 v5 h0 a9 Z3 Z4 Z5 Z6 Z7 Z8
  have Z3 := X3
  have Z4 := X4
  have Z5 := X5
  have Z6 := X6
  have Z7 := X7
  have Z8 := X8
  have h0 := l3
  have a9 := q3
  clear l3 q3 X3 X4 X5 X6 X7 X8
  generalize (((((w7.setCell ⟨a6, 0, none⟩ (.int .i64 p.1.f0)).setCell ⟨a6, 1, none⟩ (.int .i64 p.1.f1)).setCell ⟨a6, 2, none⟩ (.int .i64 p.1.f2)).setCell ⟨a6, 3, none⟩ (.int .i64 p.1.f3)).setCell ⟨a6, 4, none⟩ (.string p.1.f4)) = w8 at *
  by_cases q2 : p.2 = 0
  case neg =>
   have n8 := am q2
   have E4 := beq_eq_false_iff_ne.2 q2
   clear q2
   gi_wp2
   refine ⟨KF.out, q5.out, ⟨Z3.out, Z4.out, Z5.out, Z6.out, Z7.out, Z8.out⟩, h0.out, a9.out, fun y hy => ?_⟩
   rcases List.mem_append.1 hy with hy | hy
   ·
    exact m2.out y hy
   obtain rfl := List.mem_singleton.1 hy
   intro p' r4
   rw [p7.out, q1.out, p6.out] at r4
   cases r4
   exact n8.out
  have n8 := am q2
  have E4 := q2
  clear q2 q5
  obtain ⟨b0, b1, b2, b3, b4⟩ := ce5 Z3.out
  have j4 := q0k Z3.out 4
  gi_wp2_with ((first | (refine ⟨trivial, ?_⟩; gi_at_call 37) | gi_at_call 37); refine (CallsIn.inRound l (callsIn_wide.2 (q4b A3 c3 ys _ (q1c.reads (q1c.below H3.out a9.out) HC.out h0.out) (by have h_ := l0.out; (try dsimp only at h_); omega)))).mono ?_; rintro e w9 ⟨v9, rfl, ho, hb⟩; obtain ⟨A9, c9, e9⟩ := Kd.R_slice ho; subst e9; have H9 := am (Kd.R_lower ho (q0p h0.out)); have X3 := am (q0b Z3.out hb); have X6 := am (q0b Z6.out hb); have X7 := am (q0b Z7.out hb); have X8 := am (q0b Z8.out hb); have q6 := am (q0b XP.out hb); have l3 := am (q0j h0.out hb); have q4 := am (KeepsFrom.trans KF.out ((q1b hb).from _)); clear Z3 Z6 Z7 Z8 Z4 Z5 XP h0 KF hb ho b0 b1 b2 b3 b4 j4; have Z3 := X3; have Z6 := X6; have Z7 := X7; have Z8 := X8; have XP := q6; have h0 := l3; have KF := q4; clear X3 X6 X7 X8 q6 l3 q4; obtain ⟨gr, v7, e6, l4, v8, o1, l1⟩ := Kd.R_form H9.out (by have := HI.out; omega); injection e6 with e6 e7 e8; subst e6; subst e8; clear e7; obtain ⟨cc, t5, o2, k7, r2⟩ := Kd.R_elem H9.out z51 ((x.val : Nat) : Int) (by omega) (by have := HI.out; omega); rw [Int.toNat_natCast] at k7 r2; generalize ys.getD (((x.val : Nat) : Int)).toNat z51 = s2 at o2; obtain rfl := X.k51_openM o2; clear o2 t5; have t0 : w9.cell? ⟨gr, x.val * 5, none⟩ = some (.int .i64 s2.f0) := k7 0 _ rfl; have t1 : w9.cell? ⟨gr, x.val * 5 + 1, none⟩ = some (.int .i64 s2.f1) := k7 1 _ rfl; have t2 : w9.cell? ⟨gr, x.val * 5 + 2, none⟩ = some (.int .i64 s2.f2) := k7 2 _ rfl; have t3 : w9.cell? ⟨gr, x.val * 5 + 3, none⟩ = some (.int .i64 s2.f3) := k7 3 _ rfl; have t4 : w9.cell? ⟨gr, x.val * 5 + 4, none⟩ = some (.string s2.f4) := k7 4 _ rfl; have u5 : w9.frozen? ⟨gr, x.val * 5, none⟩ = false := q0k l1 _; have u6 : w9.frozen? ⟨gr, x.val * 5 + 1, none⟩ = false := q0k l1 _; have u7 : w9.frozen? ⟨gr, x.val * 5 + 2, none⟩ = false := q0k l1 _; have u8 : w9.frozen? ⟨gr, x.val * 5 + 3, none⟩ = false := q0k l1 _; have u9 : w9.frozen? ⟨gr, x.val * 5 + 4, none⟩ = false := q0k l1 _; have o0 := am (Kd.own_blk (Kd.R_ne H9.out Z3.out (by decide))); have m3 := am (Kd.own_blk (Kd.R_ne H9.out Z6.out (by decide))); have m4 := am (Kd.own_blk (Kd.R_ne H9.out Z7.out (by decide))); have m5 := am (Kd.own_blk (Kd.R_ne H9.out Z8.out (by decide))); have x7 := o0.out; have z0 := o0.out.symm; have x9 := m3.out; have z6 := m3.out.symm; have y7 := m4.out; have z7 := m4.out.symm; have y9 := m5.out; have z8 := m5.out.symm; have o4 : w.heap.size ≠ a6 := (by have b9 := c6.out; have a7 := HS.out; omega); have u4 := o4.symm; have n7 := am l4; clear k7 r2 l4 l1; obtain ⟨b0, b1, b2, b3, b4⟩ := ce5 Z3.out; have j4 := q0k Z3.out 4; have y0 : w9.cell? ⟨a6, 0, none⟩ = some (.int .i64 p.1.f0) := bc XP.out; have y1 : w9.cell? ⟨a6, 1, none⟩ = some (.int .i64 p.1.f1) := bc XP.out; have y2 : w9.cell? ⟨a6, 2, none⟩ = some (.int .i64 p.1.f2) := bc XP.out; have y3 : w9.cell? ⟨a6, 3, none⟩ = some (.int .i64 p.1.f3) := bc XP.out; have y4 : w9.cell? ⟨a6, 4, none⟩ = some (.string p.1.f4) := bc XP.out; obtain ⟨d0, d1, d2, d3, d4⟩ := ce5 Z6.out; obtain ⟨j5, j6, j7, j8, j9⟩ := z5 Z6.out; have q0 := ce1 Z7.out; have k1 := z1 Z7.out; have u0 := ce1 Z8.out; have k2 := z1 Z8.out)
  have X6 := am (show (St5 (w9.setCell ⟨w.heap.size, 4, none⟩ (.slice (some ⟨gr, 0, none⟩) ys.length c9)) gr (x.val * 5) p.1).heap[w.heap.size + 1 + 1 + 1]? = some (.cells (#[(.string (⟨#[]⟩ : ByteArray)), (.string (⟨#[]⟩ : ByteArray)), (.slice none 0 0), (.int .i64 0), (.slice none 0 0)] : Array Value) 27 (0, 0)) from q3i _ _ _ _ _ _ _ (q0l Z6.out (by show w.heap.size + 1 + 1 + 1 ≠ w.heap.size; omega) _) m3.out.symm)
  have X7 := am (show (St5 (w9.setCell ⟨w.heap.size, 4, none⟩ (.slice (some ⟨gr, 0, none⟩) ys.length c9)) gr (x.val * 5) p.1).heap[w.heap.size + 1 + 1 + 1 + 1]? = some (.cells (#[(.int .i64 0)] : Array Value) 3 (0, 0)) from q3i _ _ _ _ _ _ _ (q0l Z7.out (by show w.heap.size + 1 + 1 + 1 + 1 ≠ w.heap.size; omega) _) m4.out.symm)
  have X8 := am (show (St5 (w9.setCell ⟨w.heap.size, 4, none⟩ (.slice (some ⟨gr, 0, none⟩) ys.length c9)) gr (x.val * 5) p.1).heap[w.heap.size + 1 + 1 + 1 + 1 + 1]? = some (.cells (#[(.int .i64 0)] : Array Value) 29 (0, 0)) from q3i _ _ _ _ _ _ _ (q0l Z8.out (by show w.heap.size + 1 + 1 + 1 + 1 + 1 ≠ w.heap.size; omega) _) m5.out.symm)
  have XR := am (show Kd.R k51 51 (St5 (w9.setCell ⟨w.heap.size, 4, none⟩ (.slice (some ⟨gr, 0, none⟩) ys.length c9)) gr (x.val * 5) p.1) w.heap.size (fun _ => True) (.slice (some ⟨gr, 0, none⟩) ys.length c9) (ys.set x.val p.1) from put51 _ w.heap.size gr ys.length c9 (fun _ => True) ys (Kd.R_set H9.out Z3.out (by decide) 4 (.slice (some ⟨gr, 0, none⟩) ys.length c9)) x.val HI.out p.1)
  have XB := am (show Below w.heap.size w (St5 (w9.setCell ⟨w.heap.size, 4, none⟩ (.slice (some ⟨gr, 0, none⟩) ys.length c9)) gr (x.val * 5) p.1) from q3t _ _ _ _ _ (q0n h0.out (by show w.heap.size ≤ w.heap.size; omega)) n7.out)
  have XK := am (show KeepsFrom w5.heap.size W (St5 (w9.setCell ⟨w.heap.size, 4, none⟩ (.slice (some ⟨gr, 0, none⟩) ys.length c9)) gr (x.val * 5) p.1) from KeepsFrom.trans (KeepsFrom.trans (KeepsFrom.trans (KeepsFrom.trans (KeepsFrom.trans (KeepsFrom.trans KF.out ((KeepsOthers.setCell _ _ _).from _)) ((KeepsOthers.setCell _ _ _).from _)) ((KeepsOthers.setCell _ _ _).from _)) ((KeepsOthers.setCell _ _ _).from _)) ((KeepsOthers.setCell _ _ _).from _)) ((KeepsOthers.setCell _ _ _).from _))
  clear Z3 Z6 Z7 Z8 H9 h0 KF XP o0 m3 m4 m5 t0 t1 t2 t3 t4 u5 u6 u7 u8 u9 y0 y1 y2 y3 y4 j4 q0 k1 u0 k2 b0 b1 b2 b3 b4 d0 d1 d2 d3 d4 j5 j6 j7 j8 j9
  unfold St5 at X6 X7 X8 XR XB XK
  generalize ((((((w9.setCell ⟨w.heap.size, 4, none⟩ (.slice (some ⟨gr, 0, none⟩) ys.length c9)).setCell ⟨gr, x.val * 5, none⟩ (.int .i64 p.1.f0)).setCell ⟨gr, x.val * 5 + 1, none⟩ (.int .i64 p.1.f1)).setCell ⟨gr, x.val * 5 + 2, none⟩ (.int .i64 p.1.f2)).setCell ⟨gr, x.val * 5 + 3, none⟩ (.int .i64 p.1.f3)).setCell ⟨gr, x.val * 5 + 4, none⟩ (.string p.1.f4)) = k3 at *
  have F6 := (show (((((((k3.setCell ⟨w.heap.size + 1 + 1 + 1, 0, none⟩ (.string ky)).setCell ⟨w.heap.size + 1 + 1 + 1, 1, none⟩ (.string nm)).setCell ⟨w.heap.size + 1 + 1 + 1, 2, none⟩ (.slice (some ad) ts.length c1)).setCell ⟨w.heap.size + 1 + 1 + 1, 3, none⟩ (.int .i64 0)).setCell ⟨w.heap.size + 1 + 1 + 1, 4, none⟩ (.slice (some ⟨gr, 0, none⟩) ys.length c9)).setCell ⟨w.heap.size + 1 + 1 + 1 + 1, 0, none⟩ (.int .i64 ((x.val : Nat) : Int))).setCell ⟨w.heap.size + 1 + 1 + 1 + 1 + 1, 0, none⟩ (.int .i64 0)).heap[w.heap.size + 1 + 1 + 1]? = some (.cells (#[(.string ky), (.string nm), (.slice (some ad) ts.length c1), (.int .i64 0), (.slice (some ⟨gr, 0, none⟩) ys.length c9)] : Array Value) 27 (0, 0)) from (q0l (q0l (q0o (cs := #[(.string ky), (.string nm), (.slice (some ad) ts.length c1), (.int .i64 0), (.slice none 0 0)]) (cs' := #[(.string ky), (.string nm), (.slice (some ad) ts.length c1), (.int .i64 0), (.slice (some ⟨gr, 0, none⟩) ys.length c9)]) (q0o (cs := #[(.string ky), (.string nm), (.slice (some ad) ts.length c1), (.int .i64 0), (.slice none 0 0)]) (cs' := #[(.string ky), (.string nm), (.slice (some ad) ts.length c1), (.int .i64 0), (.slice none 0 0)]) (q0o (cs := #[(.string ky), (.string nm), (.slice none 0 0), (.int .i64 0), (.slice none 0 0)]) (cs' := #[(.string ky), (.string nm), (.slice (some ad) ts.length c1), (.int .i64 0), (.slice none 0 0)]) (q0o (cs := #[(.string ky), (.string (⟨#[]⟩ : ByteArray)), (.slice none 0 0), (.int .i64 0), (.slice none 0 0)]) (cs' := #[(.string ky), (.string nm), (.slice none 0 0), (.int .i64 0), (.slice none 0 0)]) (q0o (cs := #[(.string (⟨#[]⟩ : ByteArray)), (.string (⟨#[]⟩ : ByteArray)), (.slice none 0 0), (.int .i64 0), (.slice none 0 0)]) (cs' := #[(.string ky), (.string (⟨#[]⟩ : ByteArray)), (.slice none 0 0), (.int .i64 0), (.slice none 0 0)]) X6.out 0 _ rfl) 1 _ rfl) 2 _ rfl) 3 _ rfl) 4 _ rfl) (by show w.heap.size + 1 + 1 + 1 ≠ w.heap.size + 1 + 1 + 1 + 1; omega) _) (by show w.heap.size + 1 + 1 + 1 ≠ w.heap.size + 1 + 1 + 1 + 1 + 1; omega) _))
  have F7 := (show (((((((k3.setCell ⟨w.heap.size + 1 + 1 + 1, 0, none⟩ (.string ky)).setCell ⟨w.heap.size + 1 + 1 + 1, 1, none⟩ (.string nm)).setCell ⟨w.heap.size + 1 + 1 + 1, 2, none⟩ (.slice (some ad) ts.length c1)).setCell ⟨w.heap.size + 1 + 1 + 1, 3, none⟩ (.int .i64 0)).setCell ⟨w.heap.size + 1 + 1 + 1, 4, none⟩ (.slice (some ⟨gr, 0, none⟩) ys.length c9)).setCell ⟨w.heap.size + 1 + 1 + 1 + 1, 0, none⟩ (.int .i64 ((x.val : Nat) : Int))).setCell ⟨w.heap.size + 1 + 1 + 1 + 1 + 1, 0, none⟩ (.int .i64 0)).heap[w.heap.size + 1 + 1 + 1 + 1]? = some (.cells (#[(.int .i64 ((x.val : Nat) : Int))] : Array Value) 3 (0, 0)) from (q0l (q0o (cs := #[.int .i64 0]) (cs' := #[.int .i64 ((x.val : Nat) : Int)]) (q0l (q0l (q0l (q0l (q0l X7.out (by show w.heap.size + 1 + 1 + 1 + 1 ≠ w.heap.size + 1 + 1 + 1; omega) _) (by show w.heap.size + 1 + 1 + 1 + 1 ≠ w.heap.size + 1 + 1 + 1; omega) _) (by show w.heap.size + 1 + 1 + 1 + 1 ≠ w.heap.size + 1 + 1 + 1; omega) _) (by show w.heap.size + 1 + 1 + 1 + 1 ≠ w.heap.size + 1 + 1 + 1; omega) _) (by show w.heap.size + 1 + 1 + 1 + 1 ≠ w.heap.size + 1 + 1 + 1; omega) _) 0 _ rfl) (by show w.heap.size + 1 + 1 + 1 + 1 ≠ w.heap.size + 1 + 1 + 1 + 1 + 1; omega) _))
  have F8 := (show (((((((k3.setCell ⟨w.heap.size + 1 + 1 + 1, 0, none⟩ (.string ky)).setCell ⟨w.heap.size + 1 + 1 + 1, 1, none⟩ (.string nm)).setCell ⟨w.heap.size + 1 + 1 + 1, 2, none⟩ (.slice (some ad) ts.length c1)).setCell ⟨w.heap.size + 1 + 1 + 1, 3, none⟩ (.int .i64 0)).setCell ⟨w.heap.size + 1 + 1 + 1, 4, none⟩ (.slice (some ⟨gr, 0, none⟩) ys.length c9)).setCell ⟨w.heap.size + 1 + 1 + 1 + 1, 0, none⟩ (.int .i64 ((x.val : Nat) : Int))).setCell ⟨w.heap.size + 1 + 1 + 1 + 1 + 1, 0, none⟩ (.int .i64 0)).heap[w.heap.size + 1 + 1 + 1 + 1 + 1]? = some (.cells (#[(.int .i64 0)] : Array Value) 29 (0, 0)) from (q0o (cs := #[.int .i64 0]) (cs' := #[.int .i64 0]) (q0l (q0l (q0l (q0l (q0l (q0l X8.out (by show w.heap.size + 1 + 1 + 1 + 1 + 1 ≠ w.heap.size + 1 + 1 + 1; omega) _) (by show w.heap.size + 1 + 1 + 1 + 1 + 1 ≠ w.heap.size + 1 + 1 + 1; omega) _) (by show w.heap.size + 1 + 1 + 1 + 1 + 1 ≠ w.heap.size + 1 + 1 + 1; omega) _) (by show w.heap.size + 1 + 1 + 1 + 1 + 1 ≠ w.heap.size + 1 + 1 + 1; omega) _) (by show w.heap.size + 1 + 1 + 1 + 1 + 1 ≠ w.heap.size + 1 + 1 + 1; omega) _) (by show w.heap.size + 1 + 1 + 1 + 1 + 1 ≠ w.heap.size + 1 + 1 + 1 + 1; omega) _) 0 _ rfl))
  have r9 := (show Kd.R k51 51 (((((k3.setCell ⟨w.heap.size + 1 + 1 + 1, 0, none⟩ (.string ky)).setCell ⟨w.heap.size + 1 + 1 + 1, 1, none⟩ (.string nm)).setCell ⟨w.heap.size + 1 + 1 + 1, 2, none⟩ (.slice (some ad) ts.length c1)).setCell ⟨w.heap.size + 1 + 1 + 1, 3, none⟩ (.int .i64 0)).setCell ⟨w.heap.size + 1 + 1 + 1, 4, none⟩ (.slice (some ⟨gr, 0, none⟩) ys.length c9)) w.heap.size (fun _ => True) (.slice (some ⟨gr, 0, none⟩) ys.length c9) (ys.set x.val p.1) from (Kd.R_set (Kd.R_set (Kd.R_set (Kd.R_set (Kd.R_set XR.out X6.out (by decide) 0 _) (q0o (cs := #[(.string (⟨#[]⟩ : ByteArray)), (.string (⟨#[]⟩ : ByteArray)), (.slice none 0 0), (.int .i64 0), (.slice none 0 0)]) (cs' := #[(.string ky), (.string (⟨#[]⟩ : ByteArray)), (.slice none 0 0), (.int .i64 0), (.slice none 0 0)]) X6.out 0 _ rfl) (by decide) 1 _) (q0o (cs := #[(.string ky), (.string (⟨#[]⟩ : ByteArray)), (.slice none 0 0), (.int .i64 0), (.slice none 0 0)]) (cs' := #[(.string ky), (.string nm), (.slice none 0 0), (.int .i64 0), (.slice none 0 0)]) (q0o (cs := #[(.string (⟨#[]⟩ : ByteArray)), (.string (⟨#[]⟩ : ByteArray)), (.slice none 0 0), (.int .i64 0), (.slice none 0 0)]) (cs' := #[(.string ky), (.string (⟨#[]⟩ : ByteArray)), (.slice none 0 0), (.int .i64 0), (.slice none 0 0)]) X6.out 0 _ rfl) 1 _ rfl) (by decide) 2 _) (q0o (cs := #[(.string ky), (.string nm), (.slice none 0 0), (.int .i64 0), (.slice none 0 0)]) (cs' := #[(.string ky), (.string nm), (.slice (some ad) ts.length c1), (.int .i64 0), (.slice none 0 0)]) (q0o (cs := #[(.string ky), (.string (⟨#[]⟩ : ByteArray)), (.slice none 0 0), (.int .i64 0), (.slice none 0 0)]) (cs' := #[(.string ky), (.string nm), (.slice none 0 0), (.int .i64 0), (.slice none 0 0)]) (q0o (cs := #[(.string (⟨#[]⟩ : ByteArray)), (.string (⟨#[]⟩ : ByteArray)), (.slice none 0 0), (.int .i64 0), (.slice none 0 0)]) (cs' := #[(.string ky), (.string (⟨#[]⟩ : ByteArray)), (.slice none 0 0), (.int .i64 0), (.slice none 0 0)]) X6.out 0 _ rfl) 1 _ rfl) 2 _ rfl) (by decide) 3 _) (q0o (cs := #[(.string ky), (.string nm), (.slice (some ad) ts.length c1), (.int .i64 0), (.slice none 0 0)]) (cs' := #[(.string ky), (.string nm), (.slice (some ad) ts.length c1), (.int .i64 0), (.slice none 0 0)]) (q0o (cs := #[(.string ky), (.string nm), (.slice none 0 0), (.int .i64 0), (.slice none 0 0)]) (cs' := #[(.string ky), (.string nm), (.slice (some ad) ts.length c1), (.int .i64 0), (.slice none 0 0)]) (q0o (cs := #[(.string ky), (.string (⟨#[]⟩ : ByteArray)), (.slice none 0 0), (.int .i64 0), (.slice none 0 0)]) (cs' := #[(.string ky), (.string nm), (.slice none 0 0), (.int .i64 0), (.slice none 0 0)]) (q0o (cs := #[(.string (⟨#[]⟩ : ByteArray)), (.string (⟨#[]⟩ : ByteArray)), (.slice none 0 0), (.int .i64 0), (.slice none 0 0)]) (cs' := #[(.string ky), (.string (⟨#[]⟩ : ByteArray)), (.slice none 0 0), (.int .i64 0), (.slice none 0 0)]) X6.out 0 _ rfl) 1 _ rfl) 2 _ rfl) 3 _ rfl) (by decide) 4 _))
  have s0 := (show Kd.R k51 51 ((((((k3.setCell ⟨w.heap.size + 1 + 1 + 1, 0, none⟩ (.string ky)).setCell ⟨w.heap.size + 1 + 1 + 1, 1, none⟩ (.string nm)).setCell ⟨w.heap.size + 1 + 1 + 1, 2, none⟩ (.slice (some ad) ts.length c1)).setCell ⟨w.heap.size + 1 + 1 + 1, 3, none⟩ (.int .i64 0)).setCell ⟨w.heap.size + 1 + 1 + 1, 4, none⟩ (.slice (some ⟨gr, 0, none⟩) ys.length c9)).setCell ⟨w.heap.size + 1 + 1 + 1 + 1, 0, none⟩ (.int .i64 ((x.val : Nat) : Int))) w.heap.size (fun _ => True) (.slice (some ⟨gr, 0, none⟩) ys.length c9) (ys.set x.val p.1) from Kd.R_set r9 (q0l (q0l (q0l (q0l (q0l X7.out (by show w.heap.size + 1 + 1 + 1 + 1 ≠ w.heap.size + 1 + 1 + 1; omega) _) (by show w.heap.size + 1 + 1 + 1 + 1 ≠ w.heap.size + 1 + 1 + 1; omega) _) (by show w.heap.size + 1 + 1 + 1 + 1 ≠ w.heap.size + 1 + 1 + 1; omega) _) (by show w.heap.size + 1 + 1 + 1 + 1 ≠ w.heap.size + 1 + 1 + 1; omega) _) (by show w.heap.size + 1 + 1 + 1 + 1 ≠ w.heap.size + 1 + 1 + 1; omega) _) (by decide) 0 _)
  have s1 := (show Kd.R k51 51 (((((((k3.setCell ⟨w.heap.size + 1 + 1 + 1, 0, none⟩ (.string ky)).setCell ⟨w.heap.size + 1 + 1 + 1, 1, none⟩ (.string nm)).setCell ⟨w.heap.size + 1 + 1 + 1, 2, none⟩ (.slice (some ad) ts.length c1)).setCell ⟨w.heap.size + 1 + 1 + 1, 3, none⟩ (.int .i64 0)).setCell ⟨w.heap.size + 1 + 1 + 1, 4, none⟩ (.slice (some ⟨gr, 0, none⟩) ys.length c9)).setCell ⟨w.heap.size + 1 + 1 + 1 + 1, 0, none⟩ (.int .i64 ((x.val : Nat) : Int))).setCell ⟨w.heap.size + 1 + 1 + 1 + 1 + 1, 0, none⟩ (.int .i64 0)) w.heap.size (fun _ => True) (.slice (some ⟨gr, 0, none⟩) ys.length c9) (ys.set x.val p.1) from Kd.R_set s0 (q0l (q0l (q0l (q0l (q0l (q0l X8.out (by show w.heap.size + 1 + 1 + 1 + 1 + 1 ≠ w.heap.size + 1 + 1 + 1; omega) _) (by show w.heap.size + 1 + 1 + 1 + 1 + 1 ≠ w.heap.size + 1 + 1 + 1; omega) _) (by show w.heap.size + 1 + 1 + 1 + 1 + 1 ≠ w.heap.size + 1 + 1 + 1; omega) _) (by show w.heap.size + 1 + 1 + 1 + 1 + 1 ≠ w.heap.size + 1 + 1 + 1; omega) _) (by show w.heap.size + 1 + 1 + 1 + 1 + 1 ≠ w.heap.size + 1 + 1 + 1; omega) _) (by show w.heap.size + 1 + 1 + 1 + 1 + 1 ≠ w.heap.size + 1 + 1 + 1 + 1; omega) _) (by decide) 0 _)
  have FB := (show Below w.heap.size w (((((((k3.setCell ⟨w.heap.size + 1 + 1 + 1, 0, none⟩ (.string ky)).setCell ⟨w.heap.size + 1 + 1 + 1, 1, none⟩ (.string nm)).setCell ⟨w.heap.size + 1 + 1 + 1, 2, none⟩ (.slice (some ad) ts.length c1)).setCell ⟨w.heap.size + 1 + 1 + 1, 3, none⟩ (.int .i64 0)).setCell ⟨w.heap.size + 1 + 1 + 1, 4, none⟩ (.slice (some ⟨gr, 0, none⟩) ys.length c9)).setCell ⟨w.heap.size + 1 + 1 + 1 + 1, 0, none⟩ (.int .i64 ((x.val : Nat) : Int))).setCell ⟨w.heap.size + 1 + 1 + 1 + 1 + 1, 0, none⟩ (.int .i64 0)) from (q0n (q0n (q0n (q0n (q0n (q0n (q0n XB.out (by show w.heap.size ≤ w.heap.size + 1 + 1 + 1; omega)) (by show w.heap.size ≤ w.heap.size + 1 + 1 + 1; omega)) (by show w.heap.size ≤ w.heap.size + 1 + 1 + 1; omega)) (by show w.heap.size ≤ w.heap.size + 1 + 1 + 1; omega)) (by show w.heap.size ≤ w.heap.size + 1 + 1 + 1; omega)) (by show w.heap.size ≤ w.heap.size + 1 + 1 + 1 + 1; omega)) (by show w.heap.size ≤ w.heap.size + 1 + 1 + 1 + 1 + 1; omega)))
  have FK := (show KeepsFrom w5.heap.size W (((((((k3.setCell ⟨w.heap.size + 1 + 1 + 1, 0, none⟩ (.string ky)).setCell ⟨w.heap.size + 1 + 1 + 1, 1, none⟩ (.string nm)).setCell ⟨w.heap.size + 1 + 1 + 1, 2, none⟩ (.slice (some ad) ts.length c1)).setCell ⟨w.heap.size + 1 + 1 + 1, 3, none⟩ (.int .i64 0)).setCell ⟨w.heap.size + 1 + 1 + 1, 4, none⟩ (.slice (some ⟨gr, 0, none⟩) ys.length c9)).setCell ⟨w.heap.size + 1 + 1 + 1 + 1, 0, none⟩ (.int .i64 ((x.val : Nat) : Int))).setCell ⟨w.heap.size + 1 + 1 + 1 + 1 + 1, 0, none⟩ (.int .i64 0)) from (KeepsFrom.trans (KeepsFrom.trans (KeepsFrom.trans (KeepsFrom.trans (KeepsFrom.trans (KeepsFrom.trans (KeepsFrom.trans XK.out ((KeepsOthers.setCell _ _ _).from _)) ((KeepsOthers.setCell _ _ _).from _)) ((KeepsOthers.setCell _ _ _).from _)) ((KeepsOthers.setCell _ _ _).from _)) ((KeepsOthers.setCell _ _ _).from _)) ((KeepsOthers.setCell _ _ _).from _)) ((KeepsOthers.setCell _ _ _).from _)))
  exact ⟨FK, k8, x, p, rfl, m2.out, (by rw [p7.out, q1.out]; exact p6.out), n8.out, rfl, FB, (some ⟨gr, 0, none⟩), c9, F6, F7, F8, s1⟩
 case done =>
  rintro D ls W hD rfl ⟨⟨h3, h4, h5, h6, h7, h8⟩, hB, k6, hN⟩ hK
  have Z6 := am h6
  have Z7 := am h7
  have Z8 := am h8
  have h0 := am hB
  have p4 := am hK
  have hl := leaseL_skip k ts ys now a5 HG.out (List.finRange ys.length) [] (by rw [uptoF_all] at hN; exact hN)
  have o3 := p5.out
  rw [List.append_nil] at hl
  rw [hl] at o3
  obtain rfl : r = (192, 0, [], 0) := by simpa [leaseL] using o3.symm
  clear h3 h4 h5 h6 h7 h8 hB k6 hN hK hl o3
  obtain ⟨d0, d1, d2, d3, d4⟩ := ce5 Z6.out
  obtain ⟨j5, j6, j7, j8, j9⟩ := z5 Z6.out
  have q0 := ce1 Z7.out
  have k1 := z1 Z7.out
  have u0 := ce1 Z8.out
  have k2 := z1 Z8.out
  gi_wp2
  have E6 := am (show (((((((W.setCell ⟨w.heap.size + 1 + 1 + 1, 0, none⟩ (.string (⟨#[]⟩ : ByteArray))).setCell ⟨w.heap.size + 1 + 1 + 1, 1, none⟩ (.string (⟨#[]⟩ : ByteArray))).setCell ⟨w.heap.size + 1 + 1 + 1, 2, none⟩ (.slice none 0 0)).setCell ⟨w.heap.size + 1 + 1 + 1, 3, none⟩ (.int .i64 0)).setCell ⟨w.heap.size + 1 + 1 + 1, 4, none⟩ (.slice none 0 0)).setCell ⟨w.heap.size + 1 + 1 + 1 + 1, 0, none⟩ (.int .i64 0)).setCell ⟨w.heap.size + 1 + 1 + 1 + 1 + 1, 0, none⟩ (.int .i64 192)).heap[w.heap.size + 1 + 1 + 1]? = some (.cells (#[(.string (⟨#[]⟩ : ByteArray)), (.string (⟨#[]⟩ : ByteArray)), (.slice none 0 0), (.int .i64 0), (.slice none 0 0)] : Array Value) 27 (0, 0)) from (q0l (q0l (q0o (cs := #[(.string (⟨#[]⟩ : ByteArray)), (.string (⟨#[]⟩ : ByteArray)), (.slice none 0 0), (.int .i64 0), (.slice none 0 0)]) (cs' := #[(.string (⟨#[]⟩ : ByteArray)), (.string (⟨#[]⟩ : ByteArray)), (.slice none 0 0), (.int .i64 0), (.slice none 0 0)]) (q0o (cs := #[(.string (⟨#[]⟩ : ByteArray)), (.string (⟨#[]⟩ : ByteArray)), (.slice none 0 0), (.int .i64 0), (.slice none 0 0)]) (cs' := #[(.string (⟨#[]⟩ : ByteArray)), (.string (⟨#[]⟩ : ByteArray)), (.slice none 0 0), (.int .i64 0), (.slice none 0 0)]) (q0o (cs := #[(.string (⟨#[]⟩ : ByteArray)), (.string (⟨#[]⟩ : ByteArray)), (.slice none 0 0), (.int .i64 0), (.slice none 0 0)]) (cs' := #[(.string (⟨#[]⟩ : ByteArray)), (.string (⟨#[]⟩ : ByteArray)), (.slice none 0 0), (.int .i64 0), (.slice none 0 0)]) (q0o (cs := #[(.string (⟨#[]⟩ : ByteArray)), (.string (⟨#[]⟩ : ByteArray)), (.slice none 0 0), (.int .i64 0), (.slice none 0 0)]) (cs' := #[(.string (⟨#[]⟩ : ByteArray)), (.string (⟨#[]⟩ : ByteArray)), (.slice none 0 0), (.int .i64 0), (.slice none 0 0)]) (q0o (cs := #[(.string (⟨#[]⟩ : ByteArray)), (.string (⟨#[]⟩ : ByteArray)), (.slice none 0 0), (.int .i64 0), (.slice none 0 0)]) (cs' := #[(.string (⟨#[]⟩ : ByteArray)), (.string (⟨#[]⟩ : ByteArray)), (.slice none 0 0), (.int .i64 0), (.slice none 0 0)]) Z6.out 0 _ rfl) 1 _ rfl) 2 _ rfl) 3 _ rfl) 4 _ rfl) (by show w.heap.size + 1 + 1 + 1 ≠ w.heap.size + 1 + 1 + 1 + 1; omega) _) (by show w.heap.size + 1 + 1 + 1 ≠ w.heap.size + 1 + 1 + 1 + 1 + 1; omega) _))
  have E7 := am (show (((((((W.setCell ⟨w.heap.size + 1 + 1 + 1, 0, none⟩ (.string (⟨#[]⟩ : ByteArray))).setCell ⟨w.heap.size + 1 + 1 + 1, 1, none⟩ (.string (⟨#[]⟩ : ByteArray))).setCell ⟨w.heap.size + 1 + 1 + 1, 2, none⟩ (.slice none 0 0)).setCell ⟨w.heap.size + 1 + 1 + 1, 3, none⟩ (.int .i64 0)).setCell ⟨w.heap.size + 1 + 1 + 1, 4, none⟩ (.slice none 0 0)).setCell ⟨w.heap.size + 1 + 1 + 1 + 1, 0, none⟩ (.int .i64 0)).setCell ⟨w.heap.size + 1 + 1 + 1 + 1 + 1, 0, none⟩ (.int .i64 192)).heap[w.heap.size + 1 + 1 + 1 + 1]? = some (.cells (#[(.int .i64 0)] : Array Value) 3 (0, 0)) from (q0l (q0o (cs := #[.int .i64 0]) (cs' := #[.int .i64 0]) (q0l (q0l (q0l (q0l (q0l Z7.out (by show w.heap.size + 1 + 1 + 1 + 1 ≠ w.heap.size + 1 + 1 + 1; omega) _) (by show w.heap.size + 1 + 1 + 1 + 1 ≠ w.heap.size + 1 + 1 + 1; omega) _) (by show w.heap.size + 1 + 1 + 1 + 1 ≠ w.heap.size + 1 + 1 + 1; omega) _) (by show w.heap.size + 1 + 1 + 1 + 1 ≠ w.heap.size + 1 + 1 + 1; omega) _) (by show w.heap.size + 1 + 1 + 1 + 1 ≠ w.heap.size + 1 + 1 + 1; omega) _) 0 _ rfl) (by show w.heap.size + 1 + 1 + 1 + 1 ≠ w.heap.size + 1 + 1 + 1 + 1 + 1; omega) _))
  have E8 := am (show (((((((W.setCell ⟨w.heap.size + 1 + 1 + 1, 0, none⟩ (.string (⟨#[]⟩ : ByteArray))).setCell ⟨w.heap.size + 1 + 1 + 1, 1, none⟩ (.string (⟨#[]⟩ : ByteArray))).setCell ⟨w.heap.size + 1 + 1 + 1, 2, none⟩ (.slice none 0 0)).setCell ⟨w.heap.size + 1 + 1 + 1, 3, none⟩ (.int .i64 0)).setCell ⟨w.heap.size + 1 + 1 + 1, 4, none⟩ (.slice none 0 0)).setCell ⟨w.heap.size + 1 + 1 + 1 + 1, 0, none⟩ (.int .i64 0)).setCell ⟨w.heap.size + 1 + 1 + 1 + 1 + 1, 0, none⟩ (.int .i64 192)).heap[w.heap.size + 1 + 1 + 1 + 1 + 1]? = some (.cells (#[(.int .i64 192)] : Array Value) 29 (0, 0)) from (q0o (cs := #[.int .i64 0]) (cs' := #[.int .i64 192]) (q0l (q0l (q0l (q0l (q0l (q0l Z8.out (by show w.heap.size + 1 + 1 + 1 + 1 + 1 ≠ w.heap.size + 1 + 1 + 1; omega) _) (by show w.heap.size + 1 + 1 + 1 + 1 + 1 ≠ w.heap.size + 1 + 1 + 1; omega) _) (by show w.heap.size + 1 + 1 + 1 + 1 + 1 ≠ w.heap.size + 1 + 1 + 1; omega) _) (by show w.heap.size + 1 + 1 + 1 + 1 + 1 ≠ w.heap.size + 1 + 1 + 1; omega) _) (by show w.heap.size + 1 + 1 + 1 + 1 + 1 ≠ w.heap.size + 1 + 1 + 1; omega) _) (by show w.heap.size + 1 + 1 + 1 + 1 + 1 ≠ w.heap.size + 1 + 1 + 1 + 1; omega) _) 0 _ rfl))
  have EB := am (show Below w.heap.size w (((((((W.setCell ⟨w.heap.size + 1 + 1 + 1, 0, none⟩ (.string (⟨#[]⟩ : ByteArray))).setCell ⟨w.heap.size + 1 + 1 + 1, 1, none⟩ (.string (⟨#[]⟩ : ByteArray))).setCell ⟨w.heap.size + 1 + 1 + 1, 2, none⟩ (.slice none 0 0)).setCell ⟨w.heap.size + 1 + 1 + 1, 3, none⟩ (.int .i64 0)).setCell ⟨w.heap.size + 1 + 1 + 1, 4, none⟩ (.slice none 0 0)).setCell ⟨w.heap.size + 1 + 1 + 1 + 1, 0, none⟩ (.int .i64 0)).setCell ⟨w.heap.size + 1 + 1 + 1 + 1 + 1, 0, none⟩ (.int .i64 192)) from (q0n (q0n (q0n (q0n (q0n (q0n (q0n h0.out (by show w.heap.size ≤ w.heap.size + 1 + 1 + 1; omega)) (by show w.heap.size ≤ w.heap.size + 1 + 1 + 1; omega)) (by show w.heap.size ≤ w.heap.size + 1 + 1 + 1; omega)) (by show w.heap.size ≤ w.heap.size + 1 + 1 + 1; omega)) (by show w.heap.size ≤ w.heap.size + 1 + 1 + 1; omega)) (by show w.heap.size ≤ w.heap.size + 1 + 1 + 1 + 1; omega)) (by show w.heap.size ≤ w.heap.size + 1 + 1 + 1 + 1 + 1; omega)))
  have EK := am (show (((((((W.setCell ⟨w.heap.size + 1 + 1 + 1, 0, none⟩ (.string (⟨#[]⟩ : ByteArray))).setCell ⟨w.heap.size + 1 + 1 + 1, 1, none⟩ (.string (⟨#[]⟩ : ByteArray))).setCell ⟨w.heap.size + 1 + 1 + 1, 2, none⟩ (.slice none 0 0)).setCell ⟨w.heap.size + 1 + 1 + 1, 3, none⟩ (.int .i64 0)).setCell ⟨w.heap.size + 1 + 1 + 1, 4, none⟩ (.slice none 0 0)).setCell ⟨w.heap.size + 1 + 1 + 1 + 1, 0, none⟩ (.int .i64 0)).setCell ⟨w.heap.size + 1 + 1 + 1 + 1 + 1, 0, none⟩ (.int .i64 192)).heap[D]? = some (.deferred (some [])) from ((Below.heap_setCell _ _ _ D (by show D ≠ w.heap.size + 1 + 1 + 1 + 1 + 1; have h_ := HS.out; omega)).trans ((Below.heap_setCell _ _ _ D (by show D ≠ w.heap.size + 1 + 1 + 1 + 1; have h_ := HS.out; omega)).trans ((Below.heap_setCell _ _ _ D (by show D ≠ w.heap.size + 1 + 1 + 1; have h_ := HS.out; omega)).trans ((Below.heap_setCell _ _ _ D (by show D ≠ w.heap.size + 1 + 1 + 1; have h_ := HS.out; omega)).trans ((Below.heap_setCell _ _ _ D (by show D ≠ w.heap.size + 1 + 1 + 1; have h_ := HS.out; omega)).trans ((Below.heap_setCell _ _ _ D (by show D ≠ w.heap.size + 1 + 1 + 1; have h_ := HS.out; omega)).trans ((Below.heap_setCell _ _ _ D (by show D ≠ w.heap.size + 1 + 1 + 1; have h_ := HS.out; omega)).trans p4.out))))))))
  clear p4
  generalize (((((((W.setCell ⟨w.heap.size + 1 + 1 + 1, 0, none⟩ (.string (⟨#[]⟩ : ByteArray))).setCell ⟨w.heap.size + 1 + 1 + 1, 1, none⟩ (.string (⟨#[]⟩ : ByteArray))).setCell ⟨w.heap.size + 1 + 1 + 1, 2, none⟩ (.slice none 0 0)).setCell ⟨w.heap.size + 1 + 1 + 1, 3, none⟩ (.int .i64 0)).setCell ⟨w.heap.size + 1 + 1 + 1, 4, none⟩ (.slice none 0 0)).setCell ⟨w.heap.size + 1 + 1 + 1 + 1, 0, none⟩ (.int .i64 0)).setCell ⟨w.heap.size + 1 + 1 + 1 + 1 + 1, 0, none⟩ (.int .i64 192)) = wE at *
  refine ⟨by simp, .inl ⟨_, _, rfl, run_takeDeferred EK.out, ?_⟩⟩
  have P6 : (wE.putObj D (.deferred none)).heap[w.heap.size + 1 + 1 + 1]? = some (.cells (#[(.string (⟨#[]⟩ : ByteArray)), (.string (⟨#[]⟩ : ByteArray)), (.slice none 0 0), (.int .i64 0), (.slice none 0 0)] : Array Value) 27 (0, 0)) := (World.putObj_heap_other (by have h_ := HS.out; omega)).trans E6.out
  have P7 : (wE.putObj D (.deferred none)).heap[w.heap.size + 1 + 1 + 1 + 1]? = some (.cells (#[(.int .i64 0)] : Array Value) 3 (0, 0)) := (World.putObj_heap_other (by have h_ := HS.out; omega)).trans E7.out
  have P8 : (wE.putObj D (.deferred none)).heap[w.heap.size + 1 + 1 + 1 + 1 + 1]? = some (.cells (#[(.int .i64 192)] : Array Value) 29 (0, 0)) := (World.putObj_heap_other (by have h_ := HS.out; omega)).trans E8.out
  exact ⟨_, q3c rfl _ _ (w.heap.size + 1 + 1 + 1) (w.heap.size + 1 + 1 + 1 + 1) (w.heap.size + 1 + 1 + 1 + 1 + 1) 27 (#[(.string (⟨#[]⟩ : ByteArray)), (.string (⟨#[]⟩ : ByteArray)), (.slice none 0 0), (.int .i64 0), (.slice none 0 0)] : Array Value) (0, 0) _ (.int .i64 0) (.int .i64 192) rfl P6 Try.underlying27 rfl (by kernel_rfl) rfl (load3 _ _ _ (bc P7)) rfl (load29 _ _ _ (bc P8)), .inr ⟨by decide, rfl⟩, EB.out.trans (belowK_b (w := w) (Nat.le_refl _) wE D _ _ (by have := HS.out; omega) EK.out rfl rfl)⟩
 case stop =>
  rintro D c k8 W hD ⟨kk, w2, l5⟩ ⟨i0, x, p, e1, e2, e3, e4, rfl, e6, Aq, cq, h3, h4, h5, h6⟩ hK
  have hl := p5.out
  rw [← List.take_append_drop kk (List.finRange ys.length)] at hl
  have r5 : (List.finRange ys.length).take kk = i0 ++ [x] := l5.symm.trans e1
  rw [r5, List.append_assoc, leaseL_skip k ts ys now a5 HG.out i0 _ e2, List.singleton_append, leaseL, e3, Option.bind_some, if_pos e4] at hl
  obtain rfl : r = (0, 0, ys.set x.val p.1, (x.val : Int)) := (Option.some.inj hl).symm
  have EB := am e6
  have EK := am hK
  have E6 := am h3
  have E7 := am h4
  have E8 := am h5
  have ER := am h6
  clear hK l5 r5 e1 e2 e3 e4 e6 h3 h4 h5 h6 hl
  generalize W = wE at *
  gi_wp2
  refine ⟨by simp, .inl ⟨_, _, rfl, run_takeDeferred EK.out, ?_⟩⟩
  have P6 : (wE.putObj D (.deferred none)).heap[w.heap.size + 1 + 1 + 1]? = some (.cells (#[(.string ky), (.string nm), (.slice A1 ts.length c1), (.int .i64 0), (.slice Aq ys.length cq)] : Array Value) 27 (0, 0)) := (World.putObj_heap_other (by have h_ := HS.out; omega)).trans E6.out
  have P7 : (wE.putObj D (.deferred none)).heap[w.heap.size + 1 + 1 + 1 + 1]? = some (.cells (#[(.int .i64 ((x.val : Nat) : Int))] : Array Value) 3 (0, 0)) := (World.putObj_heap_other (by have h_ := HS.out; omega)).trans E7.out
  have P8 : (wE.putObj D (.deferred none)).heap[w.heap.size + 1 + 1 + 1 + 1 + 1]? = some (.cells (#[(.int .i64 0)] : Array Value) 29 (0, 0)) := (World.putObj_heap_other (by have h_ := HS.out; omega)).trans E8.out
  exact ⟨_, q3c rfl _ _ (w.heap.size + 1 + 1 + 1) (w.heap.size + 1 + 1 + 1 + 1) (w.heap.size + 1 + 1 + 1 + 1 + 1) 27 (#[(.string ky), (.string nm), (.slice A1 ts.length c1), (.int .i64 0), (.slice Aq ys.length cq)] : Array Value) (0, 0) _ (.int .i64 ((x.val : Nat) : Int)) (.int .i64 0) rfl P6 Try.underlying27 rfl (by kernel_rfl) rfl (load3 _ _ _ (bc P7)) rfl (load29 _ _ _ (bc P8)), .inl ⟨rfl, _, rfl, q1c.own (own_R ER.out (grownBy_putObj' wE D _) (fun r_ e_ => by cases e_; exact ⟨_, EK.out, rfl⟩))⟩, EB.out.trans (belowK_b (w := w) (Nat.le_refl _) wE D _ _ (by have := HS.out; omega) EK.out rfl rfl)⟩
namespace X
theorem Gk.calls (k : Nat) (b0 b1 : ByteArray) (a0 : Nat → Prop) (a8 : Option Addr) (b3 : Nat) (a4 : List S49) (b2 : Int) (a3 : Nat → Prop) (a9 : Option Addr) (b4 : Nat) (a5 : List S51) (a1 a2 : Int) (r1 r2 : ByteArray) (r3 : List S49) (r4 : Int) (r5 : List S51) (r6 r7 : Int) (w : World) (a6 : Kd.V k49 49 w w.heap.size (fun k_ => a0 k_) (.slice a8 a4.length b3) a4) (a7 : Kd.V k51 51 w w.heap.size (fun k_ => a3 k_) (.slice a9 a5.length b4) a5) (h : Gk.f k b0 b1 a4 b2 a5 a1 a2 = some (r1, r2, r3, r4, r5, r6, r7)) :
  Calls Try.prog 23 #[.agg #[.string b0, .string b1, .slice a8 a4.length b3, .int .i64 b2, .slice a9 a5.length b4], .int .i64 a1, .int .i64 a2] w fun e w' => ∃ b5 b6 : Value, e = .returned (.tuple #[.agg #[.string r1, .string r2, b5, .int .i64 r4, b6], .int .i64 r6, .int .i64 r7]) ∧ Kd.V k49 49 w' w.heap.size (fun k_ => ((a0 k_ ∨ a3 k_) ∨ w.heap.size ≤ k_)) b5 r3 ∧ Kd.V k51 51 w' w.heap.size (fun k_ => ((a0 k_ ∨ a3 k_) ∨ w.heap.size ≤ k_)) b6 r5 ∧ Below w.heap.size w w' := by
 obtain ⟨p, hp, h⟩ := Option.bind_eq_some_iff.1 h
 obtain ⟨_, b8, b7⟩ := Kd.V_reads' a6
 refine (lease_calls k b0 b1 a8 b3 a4 b2 a9 b4 a5 a1 a2 p w b7 b8 (Kd.V_reads' a7).2.2 hp).mono ?_
 rintro e w' ⟨h1, hb⟩
 have hr := Option.some.inj h
 rcases h1 with ⟨h0, v, rfl, ho⟩ | ⟨h0, rfl⟩
 ·
  rw [if_pos h0] at hr
  cases hr
  exact ⟨_, v, rfl, Kd.V_mono (Kd.V_below a6 hb) (fun k hk => .inl (.inl hk)), Kd.V_mono (ho.V hb a7) (fun k hk => hk.imp Or.inr id), hb⟩
 rw [if_neg h0] at hr
 cases hr
 exact ⟨_, _, rfl, Kd.V_nil _ _ _ _ _, Kd.V_nil _ _ _ _ _, hb⟩
end X
end Go.Proofs.Ytabmkighhmchmaa
namespace Go.Proofs.Ytabmkighhmchmaa.X
open Go.RowKit Go.YW.PrintWords Go.YW.PrintLast Go.YW.PrintMore Go.YW.Sq
attribute [local go_sem] q0y q0w q1g q1f q0t q0s q0x q0v
set_option linter.unusedVariables false
set_option linter.unusedSimpArgs false
def Fh.l0 : Nat → List Int → List Int → Int → Int → Option (Bool)
 | 0, _, _, _, _ => none
 | k + 1, x0, x1, a1, a0 => if a0 < a1 then (if 0 ≤ a0 then (if a0 < (x0.length : Int) then (if a0 < (x1.length : Int) then (if (rd x0 a0) = (rd x1 a0) then (Fh.l0 k x0 x1 a1 (wrap64 (a0 + 1))) else (some false)) else (none)) else (none)) else (none)) else (some true)
def Fh.f (k : Nat) (l0 : List Int) (l1 : List Int) : Option (Bool) := if (l0.length : Int) = (l1.length : Int) then (Fh.l0 k l0 l1 (l0.length : Int) 0) else (some false)
set_option maxHeartbeats 8000000 in
set_option maxRecDepth 100000 in
theorem Fh.calls (k : Nat) (A0 : Option Addr) (c0 : Nat) (l0 : List Int) (A1 : Option Addr) (c1 : Nat) (l1 : List Int) (r : Bool) (w : World) (d1 : Kd.C (Kd.int .i64) w A0 l0.length l0) (c9 : l0.length ≤ c0) (d2 : Kd.C (Kd.int .i64) w A1 l1.length l1) (d0 : l1.length ≤ c1) (h : Fh.f k l0 l1 = some r) :
  Calls Try.prog 73 #[.slice A0 l0.length c0, .slice A1 l1.length c1] w fun e w' => e = .returned (.bool r) ∧ q1k w w' := by
 have b8 := am d1
 have d7 := am c9
 clear d1 c9
 have b9 := am d2
 have d8 := am d0
 clear d2 d0
 unfold Fh.f at h
 have H := h
 clear h
 by_cases c3 : (l0.length : Int) = (l1.length : Int)
 ·
  rw [if_pos c3] at H
  obtain ⟨b1, b2⟩ := qt c3
  have b3 : (l0.length == l1.length) = true := by first | simpa using c3 | (simp at c3 ⊢; omega)
  clear c3
  have H' := am H
  clear H
  go_enter Try.func73, Try.ntmps73
  go_wp2
  repeat (go_quiet (fail); try go_wp2)
  go_loopg [13] k (fun kq d6 w' => ∃ (a0 : Int), d6 = .int .i64 a0 ∧ q0f (Fh.l0 kq l0 l1 (l0.length : Int) a0 = some r) ∧ q0f (kq ≤ k) ∧ q1k w w')
  case atStart => exact ⟨(0), el, H', ⟨Nat.le_refl _⟩, by repeat (first | exact q1k.refl _ | apply q1k.step)⟩
  case round =>
   clear H'
   try clear c1
   try clear c3
   try clear b1
   try clear b2
   try clear b3
   obtain ⟨a0, rfl, HA, b7, ⟨m1, rfl⟩⟩ := hrel
   cases gk with
   | zero => exact absurd HA.out (by simp [Fh.l0])
   | succ k1 =>
    have H := HA.out
    clear HA
    simp only [Fh.l0] at H
    by_cases c4 : a0 < (l0.length : Int)
    ·
     rw [if_pos c4] at H
     have b4 := decide_eq_true c4
     clear c4
     by_cases c5 : 0 ≤ a0
     ·
      rw [if_pos c5] at H
      have d3 := decide_eq_true c5
      clear c5
      by_cases c6 : a0 < (l0.length : Int)
      ·
       rw [if_pos c6] at H
       have d4 := decide_eq_true c6
       clear c6
       by_cases c7 : a0 < (l1.length : Int)
       ·
        rw [if_pos c7] at H
        have d5 := decide_eq_true c7
        clear c7
        by_cases c8 : (rd l0 a0) = (rd l1 a0)
        ·
         rw [if_pos c8] at H
         obtain ⟨b5, b6⟩ := qt c8
         clear c8
         have H' := am H
         clear H
         have a1 : 0 ≤ (a0 : Int) := od
         have a3 : a0 < (l0.length : Int) := od
         obtain ⟨a9, a7, a5⟩ := Kd.at_int b8.out a0 a1 a3
         cases a7
         replace a1 := eq_true a1
         replace a3 := eq_true a3
         have a2 : 0 ≤ (a0 : Int) := od
         have a4 : a0 < (l1.length : Int) := od
         obtain ⟨b0, a8, a6⟩ := Kd.at_int b9.out a0 a2 a4
         cases a8
         replace a2 := eq_true a2
         replace a4 := eq_true a4
         go_wp2
         repeat (go_quiet (fail); try go_wp2)
         go_roundg k1
         case measure => have := b7.out; omega
         case rel => exact ⟨(wrap64 (a0 + 1)), el, H', ⟨by have := b7.out; omega⟩, by repeat (first | exact q1k.refl _ | apply q1k.step)⟩
        rw [if_neg c8] at H
        obtain ⟨b5, b6⟩ := qf c8
        obtain rfl := Option.some.inj H
        have a1 : 0 ≤ (a0 : Int) := od
        have a3 : a0 < (l0.length : Int) := od
        obtain ⟨a9, a7, a5⟩ := Kd.at_int b8.out a0 a1 a3
        cases a7
        replace a1 := eq_true a1
        replace a3 := eq_true a3
        have a2 : 0 ≤ (a0 : Int) := od
        have a4 : a0 < (l1.length : Int) := od
        obtain ⟨b0, a8, a6⟩ := Kd.at_int b9.out a0 a2 a4
        cases a8
        replace a2 := eq_true a2
        replace a4 := eq_true a4
        go_wp2
        repeat (go_quiet (fail); try go_wp2)
        go_ret
        exact ⟨by first | rfl | (simp; done) | (simp [*]; done), by repeat (first | exact q1k.refl _ | apply q1k.step)⟩
       rw [if_neg c7] at H
       exact absurd H (by simp)
      rw [if_neg c6] at H
      exact absurd H (by simp)
     rw [if_neg c5] at H
     exact absurd H (by simp)
    rw [if_neg c4] at H
    have b4 := decide_eq_false c4
    clear c4
    obtain rfl := Option.some.inj H
    go_wp2
    repeat (go_quiet (fail); try go_wp2)
    go_ret
    exact ⟨by first | rfl | (simp; done) | (simp [*]; done), by repeat (first | exact q1k.refl _ | apply q1k.step)⟩
 rw [if_neg c3] at H
 obtain ⟨b1, b2⟩ := qf c3
 have b3 : (l0.length == l1.length) = false := by first | simpa using c3 | (simp at c3 ⊢; omega)
 obtain rfl := Option.some.inj H
 go_enter Try.func73, Try.ntmps73
 go_wp2
 repeat (go_quiet (fail); try go_wp2)
 go_ret
 exact ⟨by first | rfl | (simp; done) | (simp [*]; done), by repeat (first | exact q1k.refl _ | apply q1k.step)⟩
mutual
def Fj.j0 : Nat → Bool → ByteArray → List (S49) → ByteArray → List (S49) → Option (Bool)
 | 0, _, _, _, _, _ => none
 | k + 1, a4, a3, a0, a1, a2 => if a4 = true then (some false) else (Fj.l0 k a0 (a0.length : Int) 0 a1 a2)
def Fj.l0 : Nat → List (S49) → Int → Int → ByteArray → List (S49) → Option (Bool)
 | 0, _, _, _, _, _ => none
 | k + 1, a3, a5, a1, a2, a0 => if a1 < a5 then (if 0 ≤ a1 then (if a1 < (a3.length : Int) then (if a1 < (a0.length : Int) then ((Fh.f k ((q0e a3 a1).f0) ((q0e a0 a1).f0)).bind fun a4 => (if a4 = true then (if ((q0e a3 a1).f1) = ((q0e a0 a1).f1) then (if ((q0e a3 a1).f2) = ((q0e a0 a1).f2) then (if ((q0e a3 a1).f3) = ((q0e a0 a1).f3) then (Fj.l0 k a3 a5 (wrap64 (a1 + 1)) a2 a0) else (some false)) else (some false)) else (some false)) else (some false))) else (none)) else (none)) else (none)) else (some true)
end
def Fj.f (k : Nat) (a0 : ByteArray) (a2 : List (S49)) (a1 : ByteArray) (a3 : List (S49)) : Option (Bool) := if a0.toList = a1.toList then (Fj.j0 k ((a2.length : Int) != (a3.length : Int)) a0 a2 a1 a3) else (Fj.j0 k true a0 a2 a1 a3)
set_option maxHeartbeats 8000000 in
set_option maxRecDepth 100000 in
theorem Fj.calls (k : Nat) (g7 : ByteArray) (h2 : Option Addr) (h4 : Nat) (a3 : List (S49)) (g6 : ByteArray) (h3 : Option Addr) (h5 : Nat) (d8 : List (S49)) (r : Bool) (w : World) (i2 : Kd.C k49 w h2 a3.length a3) (i0 : a3.length ≤ h4) (i3 : Kd.C k49 w h3 d8.length d8) (i1 : d8.length ≤ h5) (h : Fj.f k g7 a3 g6 d8 = some r) :
  Calls Try.prog 33 #[.agg #[.string g7, .slice h2 a3.length h4], .agg #[.string g6, .slice h3 d8.length h5]] w fun e w' => e = .returned (.bool r) ∧ Below w.heap.size w w' := by
 have r5 := Try.underlying24
 have r6 := Try.underlying49
 have g4 := am i2
 have n4 := am i0
 clear i2 i0
 have g5 := am i3
 have n5 := am i1
 clear i3 i1
 have HB := am (Below.refl w.heap.size w)
 unfold Fj.f at h
 have H := h
 clear h
 have m7 := am H
 clear H
 go_enter Try.func33, Try.ntmps33
 go_upto_region 1 with (first | ((with_reducible refine gD 2 ?_); (try (refine q1e (by rfl) ?_; dsimp only)); refine bz 2 #[.string g7, .slice h2 a3.length h4] 24 HB ?_; clear HB; intro h8 hg w4 hb a9 n2 HB; clear hb hg) | ((with_reducible refine gD 3 ?_); (try (refine q1e (by rfl) ?_; dsimp only)); refine bz 3 #[.string g6, .slice h3 d8.length h5] 24 HB ?_; clear HB; intro h9 hg w5 hb b0 n3 HB; have g1 := nL hg a9; have e4 := nG hg a9; replace a9 := kB a9 hb; clear hb hg))
 (try simp only [Act.put, List.setIfInBounds_toArray, List.set_cons_zero, List.set_cons_succ])
 go_cut [21] (fun r7 wc => ∃ (kq : Nat) (h0 : Bool), r7 = .bool h0 ∧ q0f (Fj.j0 kq h0 g7 a3 g6 d8 = some r) ∧ q0f (kq ≤ k) ∧ q0f (wc.heap[h8]? = some (.cells #[.string g7, (.slice h2 a3.length h4)] 24 (0, 0))) ∧ q0f (wc.heap[h9]? = some (.cells #[.string g6, (.slice h3 d8.length h5)] 24 (0, 0))) ∧ q0f (Below w.heap.size w wc))
 case first =>
  have H := m7.out
  clear m7
  by_cases c6 : g7.toList = g6.toList
  ·
   rw [if_pos c6] at H
   have h6 := beq_iff_eq.mpr c6
   have m8 := bne_eq_false_iff_eq.mpr c6
   clear c6
   (first | rw [h6] | (simp only [q2r, q2u]; rw [h6]) | skip)
   have H' := am H
   clear H
   have r4 := nn g1
   have m9 := y2 a9
   have n0 := y2 b0
   go_wp2
   go_meet
   case rel => exact ⟨_, (((a3.length : Int) != (d8.length : Int))), el, H', ol, ⟨pk a9.out⟩, ⟨pk b0.out⟩, ⟨pB HB.out⟩⟩
  rw [if_neg c6] at H
  have h6 := beq_eq_false_iff_ne.mpr c6
  have m8 := bne_iff_ne.mpr c6
  (first | rw [h6] | (simp only [q2r, q2u]; rw [h6]) | skip)
  have H' := am H
  clear H
  have o1 := nn g1
  have k4 := y2 a9
  have k5 := y2 b0
  go_wp2
  go_meet
  case rel => exact ⟨_, (true), el, H', ol, ⟨pk a9.out⟩, ⟨pk b0.out⟩, ⟨pB HB.out⟩⟩
 case rest =>
  clear m7
  obtain ⟨kq, h0, rfl, HA, n6, a9, b0, HB⟩ := hcut
  cases kq with
  | zero => exact absurd HA.out (by simp [Fj.j0])
  | succ r3 =>
   have H := HA.out
   clear HA
   simp only [Fj.j0] at H
   by_cases i7 : h0 = true
   ·
    subst i7
    rw [if_pos rfl] at H
    try dsimp only at H
    obtain rfl := Option.some.inj H
    go_wp2
    go_ret
    exact ⟨er, pB HB.out⟩
   replace i7 := Bool.eq_false_iff.mpr i7
   subst i7
   rw [if_neg (show ¬ (false = true) by decide)] at H
   try dsimp only at H
   have H' := am H
   clear H
   have o2 := nn g1
   have h7 := y2 a9
   go_wp2
   go_loopg [25] r3 (fun kq r8 w' => ∃ (a0 : Int), r8 = .int .i64 a0 ∧ q0f (Fj.l0 kq a3 (a3.length : Int) a0 g6 d8 = some r) ∧ q0f (kq ≤ r3) ∧ q0f (w'.heap[h8]? = some (.cells #[.string g7, (.slice h2 a3.length h4)] 24 (0, 0))) ∧ q0f (w'.heap[h9]? = some (.cells #[.string g6, (.slice h3 d8.length h5)] 24 (0, 0))) ∧ q0f (Below w.heap.size w w'))
   case atStart => exact ⟨(0), el, H', ⟨Nat.le_refl _⟩, ⟨pk a9.out⟩, ⟨pk b0.out⟩, ⟨pB HB.out⟩⟩
   case round =>
    clear H'
    try clear i7
    try clear h7
    try clear a9; try clear b0; try clear HB
    obtain ⟨a0, rfl, HA, n7, a9, b0, HB⟩ := hrel
    cases gk with
    | zero => exact absurd HA.out (by simp [Fj.l0])
    | succ k2 =>
     have H := HA.out
     clear HA
     simp only [Fj.l0] at H
     by_cases i4 : a0 < (a3.length : Int)
     ·
      rw [if_pos i4] at H
      have i8 := decide_eq_true i4
      clear i4
      by_cases j9 : 0 ≤ a0
      ·
       rw [if_pos j9] at H
       have n8 := decide_eq_true j9
       clear j9
       by_cases k0 : a0 < (a3.length : Int)
       ·
        rw [if_pos k0] at H
        have n9 := decide_eq_true k0
        clear k0
        by_cases k1 : a0 < (d8.length : Int)
        ·
         rw [if_pos k1] at H
         have o0 := decide_eq_true k1
         clear k1
         replace H := Option.bind_eq_some_iff.mp H
         obtain ⟨n1, i6, H⟩ := H
         try dsimp only at H
         have i5 := am i6
         clear i6
         by_cases k3 : n1 = true
         ·
          subst k3
          rw [if_pos rfl] at H
          try dsimp only at H
          by_cases i9 : ((q0e a3 a0).f1) = ((q0e d8 a0).f1)
          ·
           rw [if_pos i9] at H
           obtain ⟨j1, j2⟩ := qt i9
           clear i9
           by_cases j3 : ((q0e a3 a0).f2) = ((q0e d8 a0).f2)
           ·
            rw [if_pos j3] at H
            obtain ⟨j4, j5⟩ := qt j3
            clear j3
            by_cases j6 : ((q0e a3 a0).f3) = ((q0e d8 a0).f3)
            ·
             rw [if_pos j6] at H
             obtain ⟨j7, j8⟩ := qt j6
             clear j6
             have H' := am H
             clear H
             have e7 : 0 ≤ (a0 : Int) := od
             have e9 : a0 < (a3.length : Int) := od
             obtain ⟨g9, a7, a8, g2, c9, d0, d1, d2, c7, b8⟩ := q1q g4.out a0 e7 e9
             cases g2
             replace c9 := bX HB c9
             replace d0 := bX HB d0
             replace d1 := bX HB d1
             replace d2 := bX HB d2
             have e1 := am b8
             have d9 := am c7
             clear b8 c7
             replace e7 := eq_true e7
             replace e9 := eq_true e9
             go_wp2_with (first | ((with_reducible refine gD 6 ?_); (try (refine q1e (by rfl) ?_; dsimp only)); refine bz 6 #[.slice none 0 0, .int .i64 0, .int .i64 0, .int .i64 0] 49 HB ?_; clear HB; intro a1 hg r9 hb b5 b6 HB; have f5 := nL hg a9; have d3 := nG hg a9; replace a9 := kB a9 hb; have f7 := nL hg b0; have d4 := nG hg b0; replace b0 := kB b0 hb; clear hb hg; have o3 := nn d3; have o4 := nn d4; have k6 := y4 b5; have o5 := nn e4; have k7 := y2 b0; have e8 : 0 ≤ (a0 : Int) := od; have f4 : a0 < (d8.length : Int) := od; obtain ⟨b7, e5, e6, g3, a2, a4, a5, a6, c8, b9⟩ := q1q g5.out a0 e8 f4; cases g3; have b1 : b7.block ≠ a1 := Nat.ne_of_lt (Nat.lt_of_lt_of_le (by have := World.block_lt_of_cell? _ _ a2; first | rwa [add_block] at this | exact this) b6.out); have b2 : b7.block ≠ a1 := Nat.ne_of_lt (Nat.lt_of_lt_of_le (by have := World.block_lt_of_cell? _ _ a2; first | rwa [add_block] at this | exact this) b6.out); have b3 : b7.block ≠ a1 := Nat.ne_of_lt (Nat.lt_of_lt_of_le (by have := World.block_lt_of_cell? _ _ a2; first | rwa [add_block] at this | exact this) b6.out); have b4 : b7.block ≠ a1 := Nat.ne_of_lt (Nat.lt_of_lt_of_le (by have := World.block_lt_of_cell? _ _ a2; first | rwa [add_block] at this | exact this) b6.out); replace a2 := bX HB a2; replace a4 := bX HB a4; replace a5 := bX HB a5; replace a6 := bX HB a6; have e2 := am b9; have e0 := am c8; clear b9 c8; replace a2 := (cell_far (p := ⟨a1, 0, none⟩) (nb b1) (.slice a7 ((q0e a3 a0).f0).length a8)).trans a2; replace a4 := (cell_far (p := ⟨a1, 0, none⟩) (nb b1) (.slice a7 ((q0e a3 a0).f0).length a8)).trans a4; replace a5 := (cell_far (p := ⟨a1, 0, none⟩) (nb b1) (.slice a7 ((q0e a3 a0).f0).length a8)).trans a5; replace a6 := (cell_far (p := ⟨a1, 0, none⟩) (nb b1) (.slice a7 ((q0e a3 a0).f0).length a8)).trans a6; replace a2 := (cell_far (p := ⟨a1, 1, none⟩) (nb b2) (.int .i64 ((q0e a3 a0).f1))).trans a2; replace a4 := (cell_far (p := ⟨a1, 1, none⟩) (nb b2) (.int .i64 ((q0e a3 a0).f1))).trans a4; replace a5 := (cell_far (p := ⟨a1, 1, none⟩) (nb b2) (.int .i64 ((q0e a3 a0).f1))).trans a5; replace a6 := (cell_far (p := ⟨a1, 1, none⟩) (nb b2) (.int .i64 ((q0e a3 a0).f1))).trans a6; replace a2 := (cell_far (p := ⟨a1, 2, none⟩) (nb b3) (.int .i64 ((q0e a3 a0).f2))).trans a2; replace a4 := (cell_far (p := ⟨a1, 2, none⟩) (nb b3) (.int .i64 ((q0e a3 a0).f2))).trans a4; replace a5 := (cell_far (p := ⟨a1, 2, none⟩) (nb b3) (.int .i64 ((q0e a3 a0).f2))).trans a5; replace a6 := (cell_far (p := ⟨a1, 2, none⟩) (nb b3) (.int .i64 ((q0e a3 a0).f2))).trans a6; replace a2 := (cell_far (p := ⟨a1, 3, none⟩) (nb b4) (.int .i64 ((q0e a3 a0).f3))).trans a2; replace a4 := (cell_far (p := ⟨a1, 3, none⟩) (nb b4) (.int .i64 ((q0e a3 a0).f3))).trans a4; replace a5 := (cell_far (p := ⟨a1, 3, none⟩) (nb b4) (.int .i64 ((q0e a3 a0).f3))).trans a5; replace a6 := (cell_far (p := ⟨a1, 3, none⟩) (nb b4) (.int .i64 ((q0e a3 a0).f3))).trans a6; clear b1 b2 b3 b4; replace e8 := eq_true e8; replace f4 := eq_true f4) | ((with_reducible refine gD 7 ?_); (try (refine q1e (by rfl) ?_; dsimp only)); refine bz 7 #[.slice none 0 0, .int .i64 0, .int .i64 0, .int .i64 0] 49 HB ?_; clear HB; intro e3 hg s0 hb g0 g8 HB; have f6 := nL hg a9; have d5 := nG hg a9; replace a9 := kB a9 hb; have f8 := nL hg b0; have d6 := nG hg b0; replace b0 := kB b0 hb; have f9 := am ((by rw [hg]; exact Nat.ne_of_lt (q2h (g := a1) (o := .cells #[.slice a7 ((q0e a3 a0).f0).length a8, .int .i64 ((q0e a3 a0).f1), .int .i64 ((q0e a3 a0).f2), .int .i64 ((q0e a3 a0).f3)] 49 (0, 0)) (pP b5.out)) : a1 ≠ e3)); have d7 := am ((by rw [hg]; exact Nat.ne_of_gt (q2h (g := a1) (o := .cells #[.slice a7 ((q0e a3 a0).f0).length a8, .int .i64 ((q0e a3 a0).f1), .int .i64 ((q0e a3 a0).f2), .int .i64 ((q0e a3 a0).f3)] 49 (0, 0)) (pP b5.out)) : e3 ≠ a1)); replace b5 := am (q0b (g := a1) (o := .cells #[.slice a7 ((q0e a3 a0).f0).length a8, .int .i64 ((q0e a3 a0).f1), .int .i64 ((q0e a3 a0).f2), .int .i64 ((q0e a3 a0).f3)] 49 (0, 0)) (pP b5.out) hb); clear hb hg; have o6 := nn d5; have o7 := nn d6; have o8 := nn d7; have k8 := y4 g0; have k9 := y4 b5) | ((with_reducible refine gC 73 ?_); refine gL 39 Try.func73 #[.slice a7 ((q0e a3 a0).f0).length a8, .slice e5 ((q0e d8 a0).f0).length e6] ?_; (with_reducible refine (Fh.calls k2 _ _ ((q0e a3 a0).f0) _ _ ((q0e d8 a0).f0) true _ ?side1 ?side2 ?side3 ?side4 i5.out).mono ?_); (case side1 => exact Kd.C_below e1.out (pB HB.out)); (case side2 => exact d9.out); (case side3 => exact Kd.C_below e2.out (pB HB.out)); (case side4 => exact e0.out); rintro e w' ⟨rfl, ⟨nd, rfl⟩⟩; refine ⟨_, rfl, ?_⟩))
             go_roundg k2
             case measure => have := n6.out; have := n7.out; omega
             case rel => exact ⟨(wrap64 (a0 + 1)), el, H', ⟨by have := n6.out; have := n7.out; omega⟩, ⟨pk a9.out⟩, ⟨pk b0.out⟩, ⟨pB HB.out⟩⟩
            rw [if_neg j6] at H
            obtain ⟨j7, j8⟩ := qf j6
            obtain rfl := Option.some.inj H
            have e7 : 0 ≤ (a0 : Int) := od
            have e9 : a0 < (a3.length : Int) := od
            obtain ⟨g9, a7, a8, g2, c9, d0, d1, d2, c7, b8⟩ := q1q g4.out a0 e7 e9
            cases g2
            replace c9 := bX HB c9
            replace d0 := bX HB d0
            replace d1 := bX HB d1
            replace d2 := bX HB d2
            have e1 := am b8
            have d9 := am c7
            clear b8 c7
            replace e7 := eq_true e7
            replace e9 := eq_true e9
            go_wp2_with (first | ((with_reducible refine gD 6 ?_); (try (refine q1e (by rfl) ?_; dsimp only)); refine bz 6 #[.slice none 0 0, .int .i64 0, .int .i64 0, .int .i64 0] 49 HB ?_; clear HB; intro a1 hg s1 hb b5 b6 HB; have f5 := nL hg a9; have d3 := nG hg a9; replace a9 := kB a9 hb; have f7 := nL hg b0; have d4 := nG hg b0; replace b0 := kB b0 hb; clear hb hg; have o9 := nn d3; have p0 := nn d4; have l1 := y4 b5; have p1 := nn e4; have l2 := y2 b0; have e8 : 0 ≤ (a0 : Int) := od; have f4 : a0 < (d8.length : Int) := od; obtain ⟨b7, e5, e6, g3, a2, a4, a5, a6, c8, b9⟩ := q1q g5.out a0 e8 f4; cases g3; have b1 : b7.block ≠ a1 := Nat.ne_of_lt (Nat.lt_of_lt_of_le (by have := World.block_lt_of_cell? _ _ a2; first | rwa [add_block] at this | exact this) b6.out); have b2 : b7.block ≠ a1 := Nat.ne_of_lt (Nat.lt_of_lt_of_le (by have := World.block_lt_of_cell? _ _ a2; first | rwa [add_block] at this | exact this) b6.out); have b3 : b7.block ≠ a1 := Nat.ne_of_lt (Nat.lt_of_lt_of_le (by have := World.block_lt_of_cell? _ _ a2; first | rwa [add_block] at this | exact this) b6.out); have b4 : b7.block ≠ a1 := Nat.ne_of_lt (Nat.lt_of_lt_of_le (by have := World.block_lt_of_cell? _ _ a2; first | rwa [add_block] at this | exact this) b6.out); replace a2 := bX HB a2; replace a4 := bX HB a4; replace a5 := bX HB a5; replace a6 := bX HB a6; have e2 := am b9; have e0 := am c8; clear b9 c8; replace a2 := (cell_far (p := ⟨a1, 0, none⟩) (nb b1) (.slice a7 ((q0e a3 a0).f0).length a8)).trans a2; replace a4 := (cell_far (p := ⟨a1, 0, none⟩) (nb b1) (.slice a7 ((q0e a3 a0).f0).length a8)).trans a4; replace a5 := (cell_far (p := ⟨a1, 0, none⟩) (nb b1) (.slice a7 ((q0e a3 a0).f0).length a8)).trans a5; replace a6 := (cell_far (p := ⟨a1, 0, none⟩) (nb b1) (.slice a7 ((q0e a3 a0).f0).length a8)).trans a6; replace a2 := (cell_far (p := ⟨a1, 1, none⟩) (nb b2) (.int .i64 ((q0e a3 a0).f1))).trans a2; replace a4 := (cell_far (p := ⟨a1, 1, none⟩) (nb b2) (.int .i64 ((q0e a3 a0).f1))).trans a4; replace a5 := (cell_far (p := ⟨a1, 1, none⟩) (nb b2) (.int .i64 ((q0e a3 a0).f1))).trans a5; replace a6 := (cell_far (p := ⟨a1, 1, none⟩) (nb b2) (.int .i64 ((q0e a3 a0).f1))).trans a6; replace a2 := (cell_far (p := ⟨a1, 2, none⟩) (nb b3) (.int .i64 ((q0e a3 a0).f2))).trans a2; replace a4 := (cell_far (p := ⟨a1, 2, none⟩) (nb b3) (.int .i64 ((q0e a3 a0).f2))).trans a4; replace a5 := (cell_far (p := ⟨a1, 2, none⟩) (nb b3) (.int .i64 ((q0e a3 a0).f2))).trans a5; replace a6 := (cell_far (p := ⟨a1, 2, none⟩) (nb b3) (.int .i64 ((q0e a3 a0).f2))).trans a6; replace a2 := (cell_far (p := ⟨a1, 3, none⟩) (nb b4) (.int .i64 ((q0e a3 a0).f3))).trans a2; replace a4 := (cell_far (p := ⟨a1, 3, none⟩) (nb b4) (.int .i64 ((q0e a3 a0).f3))).trans a4; replace a5 := (cell_far (p := ⟨a1, 3, none⟩) (nb b4) (.int .i64 ((q0e a3 a0).f3))).trans a5; replace a6 := (cell_far (p := ⟨a1, 3, none⟩) (nb b4) (.int .i64 ((q0e a3 a0).f3))).trans a6; clear b1 b2 b3 b4; replace e8 := eq_true e8; replace f4 := eq_true f4) | ((with_reducible refine gD 7 ?_); (try (refine q1e (by rfl) ?_; dsimp only)); refine bz 7 #[.slice none 0 0, .int .i64 0, .int .i64 0, .int .i64 0] 49 HB ?_; clear HB; intro e3 hg s2 hb g0 g8 HB; have f6 := nL hg a9; have d5 := nG hg a9; replace a9 := kB a9 hb; have f8 := nL hg b0; have d6 := nG hg b0; replace b0 := kB b0 hb; have f9 := am ((by rw [hg]; exact Nat.ne_of_lt (q2h (g := a1) (o := .cells #[.slice a7 ((q0e a3 a0).f0).length a8, .int .i64 ((q0e a3 a0).f1), .int .i64 ((q0e a3 a0).f2), .int .i64 ((q0e a3 a0).f3)] 49 (0, 0)) (pP b5.out)) : a1 ≠ e3)); have d7 := am ((by rw [hg]; exact Nat.ne_of_gt (q2h (g := a1) (o := .cells #[.slice a7 ((q0e a3 a0).f0).length a8, .int .i64 ((q0e a3 a0).f1), .int .i64 ((q0e a3 a0).f2), .int .i64 ((q0e a3 a0).f3)] 49 (0, 0)) (pP b5.out)) : e3 ≠ a1)); replace b5 := am (q0b (g := a1) (o := .cells #[.slice a7 ((q0e a3 a0).f0).length a8, .int .i64 ((q0e a3 a0).f1), .int .i64 ((q0e a3 a0).f2), .int .i64 ((q0e a3 a0).f3)] 49 (0, 0)) (pP b5.out) hb); clear hb hg; have p2 := nn d5; have p3 := nn d6; have p4 := nn d7; have l3 := y4 g0; have l4 := y4 b5) | ((with_reducible refine gC 73 ?_); refine gL 39 Try.func73 #[.slice a7 ((q0e a3 a0).f0).length a8, .slice e5 ((q0e d8 a0).f0).length e6] ?_; (with_reducible refine (Fh.calls k2 _ _ ((q0e a3 a0).f0) _ _ ((q0e d8 a0).f0) true _ ?side1 ?side2 ?side3 ?side4 i5.out).mono ?_); (case side1 => exact Kd.C_below e1.out (pB HB.out)); (case side2 => exact d9.out); (case side3 => exact Kd.C_below e2.out (pB HB.out)); (case side4 => exact e0.out); rintro e w' ⟨rfl, ⟨nd, rfl⟩⟩; refine ⟨_, rfl, ?_⟩))
            go_ret
            exact ⟨er, pB HB.out⟩
           rw [if_neg j3] at H
           obtain ⟨j4, j5⟩ := qf j3
           obtain rfl := Option.some.inj H
           have e7 : 0 ≤ (a0 : Int) := od
           have e9 : a0 < (a3.length : Int) := od
           obtain ⟨g9, a7, a8, g2, c9, d0, d1, d2, c7, b8⟩ := q1q g4.out a0 e7 e9
           cases g2
           replace c9 := bX HB c9
           replace d0 := bX HB d0
           replace d1 := bX HB d1
           replace d2 := bX HB d2
           have e1 := am b8
           have d9 := am c7
           clear b8 c7
           replace e7 := eq_true e7
           replace e9 := eq_true e9
           go_wp2_with (first | ((with_reducible refine gD 6 ?_); (try (refine q1e (by rfl) ?_; dsimp only)); refine bz 6 #[.slice none 0 0, .int .i64 0, .int .i64 0, .int .i64 0] 49 HB ?_; clear HB; intro a1 hg s3 hb b5 b6 HB; have f5 := nL hg a9; have d3 := nG hg a9; replace a9 := kB a9 hb; have f7 := nL hg b0; have d4 := nG hg b0; replace b0 := kB b0 hb; clear hb hg; have p5 := nn d3; have p6 := nn d4; have l5 := y4 b5; have p7 := nn e4; have l6 := y2 b0; have e8 : 0 ≤ (a0 : Int) := od; have f4 : a0 < (d8.length : Int) := od; obtain ⟨b7, e5, e6, g3, a2, a4, a5, a6, c8, b9⟩ := q1q g5.out a0 e8 f4; cases g3; have b1 : b7.block ≠ a1 := Nat.ne_of_lt (Nat.lt_of_lt_of_le (by have := World.block_lt_of_cell? _ _ a2; first | rwa [add_block] at this | exact this) b6.out); have b2 : b7.block ≠ a1 := Nat.ne_of_lt (Nat.lt_of_lt_of_le (by have := World.block_lt_of_cell? _ _ a2; first | rwa [add_block] at this | exact this) b6.out); have b3 : b7.block ≠ a1 := Nat.ne_of_lt (Nat.lt_of_lt_of_le (by have := World.block_lt_of_cell? _ _ a2; first | rwa [add_block] at this | exact this) b6.out); have b4 : b7.block ≠ a1 := Nat.ne_of_lt (Nat.lt_of_lt_of_le (by have := World.block_lt_of_cell? _ _ a2; first | rwa [add_block] at this | exact this) b6.out); replace a2 := bX HB a2; replace a4 := bX HB a4; replace a5 := bX HB a5; replace a6 := bX HB a6; have e2 := am b9; have e0 := am c8; clear b9 c8; replace a2 := (cell_far (p := ⟨a1, 0, none⟩) (nb b1) (.slice a7 ((q0e a3 a0).f0).length a8)).trans a2; replace a4 := (cell_far (p := ⟨a1, 0, none⟩) (nb b1) (.slice a7 ((q0e a3 a0).f0).length a8)).trans a4; replace a5 := (cell_far (p := ⟨a1, 0, none⟩) (nb b1) (.slice a7 ((q0e a3 a0).f0).length a8)).trans a5; replace a6 := (cell_far (p := ⟨a1, 0, none⟩) (nb b1) (.slice a7 ((q0e a3 a0).f0).length a8)).trans a6; replace a2 := (cell_far (p := ⟨a1, 1, none⟩) (nb b2) (.int .i64 ((q0e a3 a0).f1))).trans a2; replace a4 := (cell_far (p := ⟨a1, 1, none⟩) (nb b2) (.int .i64 ((q0e a3 a0).f1))).trans a4; replace a5 := (cell_far (p := ⟨a1, 1, none⟩) (nb b2) (.int .i64 ((q0e a3 a0).f1))).trans a5; replace a6 := (cell_far (p := ⟨a1, 1, none⟩) (nb b2) (.int .i64 ((q0e a3 a0).f1))).trans a6; replace a2 := (cell_far (p := ⟨a1, 2, none⟩) (nb b3) (.int .i64 ((q0e a3 a0).f2))).trans a2; replace a4 := (cell_far (p := ⟨a1, 2, none⟩) (nb b3) (.int .i64 ((q0e a3 a0).f2))).trans a4; replace a5 := (cell_far (p := ⟨a1, 2, none⟩) (nb b3) (.int .i64 ((q0e a3 a0).f2))).trans a5; replace a6 := (cell_far (p := ⟨a1, 2, none⟩) (nb b3) (.int .i64 ((q0e a3 a0).f2))).trans a6; replace a2 := (cell_far (p := ⟨a1, 3, none⟩) (nb b4) (.int .i64 ((q0e a3 a0).f3))).trans a2; replace a4 := (cell_far (p := ⟨a1, 3, none⟩) (nb b4) (.int .i64 ((q0e a3 a0).f3))).trans a4; replace a5 := (cell_far (p := ⟨a1, 3, none⟩) (nb b4) (.int .i64 ((q0e a3 a0).f3))).trans a5; replace a6 := (cell_far (p := ⟨a1, 3, none⟩) (nb b4) (.int .i64 ((q0e a3 a0).f3))).trans a6; clear b1 b2 b3 b4; replace e8 := eq_true e8; replace f4 := eq_true f4) | ((with_reducible refine gD 7 ?_); (try (refine q1e (by rfl) ?_; dsimp only)); refine bz 7 #[.slice none 0 0, .int .i64 0, .int .i64 0, .int .i64 0] 49 HB ?_; clear HB; intro e3 hg s4 hb g0 g8 HB; have f6 := nL hg a9; have d5 := nG hg a9; replace a9 := kB a9 hb; have f8 := nL hg b0; have d6 := nG hg b0; replace b0 := kB b0 hb; have f9 := am ((by rw [hg]; exact Nat.ne_of_lt (q2h (g := a1) (o := .cells #[.slice a7 ((q0e a3 a0).f0).length a8, .int .i64 ((q0e a3 a0).f1), .int .i64 ((q0e a3 a0).f2), .int .i64 ((q0e a3 a0).f3)] 49 (0, 0)) (pP b5.out)) : a1 ≠ e3)); have d7 := am ((by rw [hg]; exact Nat.ne_of_gt (q2h (g := a1) (o := .cells #[.slice a7 ((q0e a3 a0).f0).length a8, .int .i64 ((q0e a3 a0).f1), .int .i64 ((q0e a3 a0).f2), .int .i64 ((q0e a3 a0).f3)] 49 (0, 0)) (pP b5.out)) : e3 ≠ a1)); replace b5 := am (q0b (g := a1) (o := .cells #[.slice a7 ((q0e a3 a0).f0).length a8, .int .i64 ((q0e a3 a0).f1), .int .i64 ((q0e a3 a0).f2), .int .i64 ((q0e a3 a0).f3)] 49 (0, 0)) (pP b5.out) hb); clear hb hg; have p8 := nn d5; have p9 := nn d6; have q0 := nn d7; have l7 := y4 g0; have l8 := y4 b5) | ((with_reducible refine gC 73 ?_); refine gL 39 Try.func73 #[.slice a7 ((q0e a3 a0).f0).length a8, .slice e5 ((q0e d8 a0).f0).length e6] ?_; (with_reducible refine (Fh.calls k2 _ _ ((q0e a3 a0).f0) _ _ ((q0e d8 a0).f0) true _ ?side1 ?side2 ?side3 ?side4 i5.out).mono ?_); (case side1 => exact Kd.C_below e1.out (pB HB.out)); (case side2 => exact d9.out); (case side3 => exact Kd.C_below e2.out (pB HB.out)); (case side4 => exact e0.out); rintro e w' ⟨rfl, ⟨nd, rfl⟩⟩; refine ⟨_, rfl, ?_⟩))
           go_ret
           exact ⟨er, pB HB.out⟩
          rw [if_neg i9] at H
          obtain ⟨j1, j2⟩ := qf i9
          obtain rfl := Option.some.inj H
          have e7 : 0 ≤ (a0 : Int) := od
          have e9 : a0 < (a3.length : Int) := od
          obtain ⟨g9, a7, a8, g2, c9, d0, d1, d2, c7, b8⟩ := q1q g4.out a0 e7 e9
          cases g2
          replace c9 := bX HB c9
          replace d0 := bX HB d0
          replace d1 := bX HB d1
          replace d2 := bX HB d2
          have e1 := am b8
          have d9 := am c7
          clear b8 c7
          replace e7 := eq_true e7
          replace e9 := eq_true e9
          go_wp2_with (first | ((with_reducible refine gD 6 ?_); (try (refine q1e (by rfl) ?_; dsimp only)); refine bz 6 #[.slice none 0 0, .int .i64 0, .int .i64 0, .int .i64 0] 49 HB ?_; clear HB; intro a1 hg s5 hb b5 b6 HB; have f5 := nL hg a9; have d3 := nG hg a9; replace a9 := kB a9 hb; have f7 := nL hg b0; have d4 := nG hg b0; replace b0 := kB b0 hb; clear hb hg; have q1 := nn d3; have q2 := nn d4; have l9 := y4 b5; have q3 := nn e4; have m0 := y2 b0; have e8 : 0 ≤ (a0 : Int) := od; have f4 : a0 < (d8.length : Int) := od; obtain ⟨b7, e5, e6, g3, a2, a4, a5, a6, c8, b9⟩ := q1q g5.out a0 e8 f4; cases g3; have b1 : b7.block ≠ a1 := Nat.ne_of_lt (Nat.lt_of_lt_of_le (by have := World.block_lt_of_cell? _ _ a2; first | rwa [add_block] at this | exact this) b6.out); have b2 : b7.block ≠ a1 := Nat.ne_of_lt (Nat.lt_of_lt_of_le (by have := World.block_lt_of_cell? _ _ a2; first | rwa [add_block] at this | exact this) b6.out); have b3 : b7.block ≠ a1 := Nat.ne_of_lt (Nat.lt_of_lt_of_le (by have := World.block_lt_of_cell? _ _ a2; first | rwa [add_block] at this | exact this) b6.out); have b4 : b7.block ≠ a1 := Nat.ne_of_lt (Nat.lt_of_lt_of_le (by have := World.block_lt_of_cell? _ _ a2; first | rwa [add_block] at this | exact this) b6.out); replace a2 := bX HB a2; replace a4 := bX HB a4; replace a5 := bX HB a5; replace a6 := bX HB a6; have e2 := am b9; have e0 := am c8; clear b9 c8; replace a2 := (cell_far (p := ⟨a1, 0, none⟩) (nb b1) (.slice a7 ((q0e a3 a0).f0).length a8)).trans a2; replace a4 := (cell_far (p := ⟨a1, 0, none⟩) (nb b1) (.slice a7 ((q0e a3 a0).f0).length a8)).trans a4; replace a5 := (cell_far (p := ⟨a1, 0, none⟩) (nb b1) (.slice a7 ((q0e a3 a0).f0).length a8)).trans a5; replace a6 := (cell_far (p := ⟨a1, 0, none⟩) (nb b1) (.slice a7 ((q0e a3 a0).f0).length a8)).trans a6; replace a2 := (cell_far (p := ⟨a1, 1, none⟩) (nb b2) (.int .i64 ((q0e a3 a0).f1))).trans a2; replace a4 := (cell_far (p := ⟨a1, 1, none⟩) (nb b2) (.int .i64 ((q0e a3 a0).f1))).trans a4; replace a5 := (cell_far (p := ⟨a1, 1, none⟩) (nb b2) (.int .i64 ((q0e a3 a0).f1))).trans a5; replace a6 := (cell_far (p := ⟨a1, 1, none⟩) (nb b2) (.int .i64 ((q0e a3 a0).f1))).trans a6; replace a2 := (cell_far (p := ⟨a1, 2, none⟩) (nb b3) (.int .i64 ((q0e a3 a0).f2))).trans a2; replace a4 := (cell_far (p := ⟨a1, 2, none⟩) (nb b3) (.int .i64 ((q0e a3 a0).f2))).trans a4; replace a5 := (cell_far (p := ⟨a1, 2, none⟩) (nb b3) (.int .i64 ((q0e a3 a0).f2))).trans a5; replace a6 := (cell_far (p := ⟨a1, 2, none⟩) (nb b3) (.int .i64 ((q0e a3 a0).f2))).trans a6; replace a2 := (cell_far (p := ⟨a1, 3, none⟩) (nb b4) (.int .i64 ((q0e a3 a0).f3))).trans a2; replace a4 := (cell_far (p := ⟨a1, 3, none⟩) (nb b4) (.int .i64 ((q0e a3 a0).f3))).trans a4; replace a5 := (cell_far (p := ⟨a1, 3, none⟩) (nb b4) (.int .i64 ((q0e a3 a0).f3))).trans a5; replace a6 := (cell_far (p := ⟨a1, 3, none⟩) (nb b4) (.int .i64 ((q0e a3 a0).f3))).trans a6; clear b1 b2 b3 b4; replace e8 := eq_true e8; replace f4 := eq_true f4) | ((with_reducible refine gD 7 ?_); (try (refine q1e (by rfl) ?_; dsimp only)); refine bz 7 #[.slice none 0 0, .int .i64 0, .int .i64 0, .int .i64 0] 49 HB ?_; clear HB; intro e3 hg s6 hb g0 g8 HB; have f6 := nL hg a9; have d5 := nG hg a9; replace a9 := kB a9 hb; have f8 := nL hg b0; have d6 := nG hg b0; replace b0 := kB b0 hb; have f9 := am ((by rw [hg]; exact Nat.ne_of_lt (q2h (g := a1) (o := .cells #[.slice a7 ((q0e a3 a0).f0).length a8, .int .i64 ((q0e a3 a0).f1), .int .i64 ((q0e a3 a0).f2), .int .i64 ((q0e a3 a0).f3)] 49 (0, 0)) (pP b5.out)) : a1 ≠ e3)); have d7 := am ((by rw [hg]; exact Nat.ne_of_gt (q2h (g := a1) (o := .cells #[.slice a7 ((q0e a3 a0).f0).length a8, .int .i64 ((q0e a3 a0).f1), .int .i64 ((q0e a3 a0).f2), .int .i64 ((q0e a3 a0).f3)] 49 (0, 0)) (pP b5.out)) : e3 ≠ a1)); replace b5 := am (q0b (g := a1) (o := .cells #[.slice a7 ((q0e a3 a0).f0).length a8, .int .i64 ((q0e a3 a0).f1), .int .i64 ((q0e a3 a0).f2), .int .i64 ((q0e a3 a0).f3)] 49 (0, 0)) (pP b5.out) hb); clear hb hg; have q4 := nn d5; have q5 := nn d6; have q6 := nn d7; have m1 := y4 g0; have m2 := y4 b5) | ((with_reducible refine gC 73 ?_); refine gL 39 Try.func73 #[.slice a7 ((q0e a3 a0).f0).length a8, .slice e5 ((q0e d8 a0).f0).length e6] ?_; (with_reducible refine (Fh.calls k2 _ _ ((q0e a3 a0).f0) _ _ ((q0e d8 a0).f0) true _ ?side1 ?side2 ?side3 ?side4 i5.out).mono ?_); (case side1 => exact Kd.C_below e1.out (pB HB.out)); (case side2 => exact d9.out); (case side3 => exact Kd.C_below e2.out (pB HB.out)); (case side4 => exact e0.out); rintro e w' ⟨rfl, ⟨nd, rfl⟩⟩; refine ⟨_, rfl, ?_⟩))
          go_ret
          exact ⟨er, pB HB.out⟩
         replace k3 := Bool.eq_false_iff.mpr k3
         subst k3
         rw [if_neg (show ¬ (false = true) by decide)] at H
         try dsimp only at H
         obtain rfl := Option.some.inj H
         have e7 : 0 ≤ (a0 : Int) := od
         have e9 : a0 < (a3.length : Int) := od
         obtain ⟨g9, a7, a8, g2, c9, d0, d1, d2, c7, b8⟩ := q1q g4.out a0 e7 e9
         cases g2
         replace c9 := bX HB c9
         replace d0 := bX HB d0
         replace d1 := bX HB d1
         replace d2 := bX HB d2
         have e1 := am b8
         have d9 := am c7
         clear b8 c7
         replace e7 := eq_true e7
         replace e9 := eq_true e9
         go_wp2_with (first | ((with_reducible refine gD 6 ?_); (try (refine q1e (by rfl) ?_; dsimp only)); refine bz 6 #[.slice none 0 0, .int .i64 0, .int .i64 0, .int .i64 0] 49 HB ?_; clear HB; intro a1 hg s7 hb b5 b6 HB; have f5 := nL hg a9; have d3 := nG hg a9; replace a9 := kB a9 hb; have f7 := nL hg b0; have d4 := nG hg b0; replace b0 := kB b0 hb; clear hb hg; have q7 := nn d3; have q8 := nn d4; have m3 := y4 b5; have q9 := nn e4; have m4 := y2 b0; have e8 : 0 ≤ (a0 : Int) := od; have f4 : a0 < (d8.length : Int) := od; obtain ⟨b7, e5, e6, g3, a2, a4, a5, a6, c8, b9⟩ := q1q g5.out a0 e8 f4; cases g3; have b1 : b7.block ≠ a1 := Nat.ne_of_lt (Nat.lt_of_lt_of_le (by have := World.block_lt_of_cell? _ _ a2; first | rwa [add_block] at this | exact this) b6.out); have b2 : b7.block ≠ a1 := Nat.ne_of_lt (Nat.lt_of_lt_of_le (by have := World.block_lt_of_cell? _ _ a2; first | rwa [add_block] at this | exact this) b6.out); have b3 : b7.block ≠ a1 := Nat.ne_of_lt (Nat.lt_of_lt_of_le (by have := World.block_lt_of_cell? _ _ a2; first | rwa [add_block] at this | exact this) b6.out); have b4 : b7.block ≠ a1 := Nat.ne_of_lt (Nat.lt_of_lt_of_le (by have := World.block_lt_of_cell? _ _ a2; first | rwa [add_block] at this | exact this) b6.out); replace a2 := bX HB a2; replace a4 := bX HB a4; replace a5 := bX HB a5; replace a6 := bX HB a6; have e2 := am b9; have e0 := am c8; clear b9 c8; replace a2 := (cell_far (p := ⟨a1, 0, none⟩) (nb b1) (.slice a7 ((q0e a3 a0).f0).length a8)).trans a2; replace a4 := (cell_far (p := ⟨a1, 0, none⟩) (nb b1) (.slice a7 ((q0e a3 a0).f0).length a8)).trans a4; replace a5 := (cell_far (p := ⟨a1, 0, none⟩) (nb b1) (.slice a7 ((q0e a3 a0).f0).length a8)).trans a5; replace a6 := (cell_far (p := ⟨a1, 0, none⟩) (nb b1) (.slice a7 ((q0e a3 a0).f0).length a8)).trans a6; replace a2 := (cell_far (p := ⟨a1, 1, none⟩) (nb b2) (.int .i64 ((q0e a3 a0).f1))).trans a2; replace a4 := (cell_far (p := ⟨a1, 1, none⟩) (nb b2) (.int .i64 ((q0e a3 a0).f1))).trans a4; replace a5 := (cell_far (p := ⟨a1, 1, none⟩) (nb b2) (.int .i64 ((q0e a3 a0).f1))).trans a5; replace a6 := (cell_far (p := ⟨a1, 1, none⟩) (nb b2) (.int .i64 ((q0e a3 a0).f1))).trans a6; replace a2 := (cell_far (p := ⟨a1, 2, none⟩) (nb b3) (.int .i64 ((q0e a3 a0).f2))).trans a2; replace a4 := (cell_far (p := ⟨a1, 2, none⟩) (nb b3) (.int .i64 ((q0e a3 a0).f2))).trans a4; replace a5 := (cell_far (p := ⟨a1, 2, none⟩) (nb b3) (.int .i64 ((q0e a3 a0).f2))).trans a5; replace a6 := (cell_far (p := ⟨a1, 2, none⟩) (nb b3) (.int .i64 ((q0e a3 a0).f2))).trans a6; replace a2 := (cell_far (p := ⟨a1, 3, none⟩) (nb b4) (.int .i64 ((q0e a3 a0).f3))).trans a2; replace a4 := (cell_far (p := ⟨a1, 3, none⟩) (nb b4) (.int .i64 ((q0e a3 a0).f3))).trans a4; replace a5 := (cell_far (p := ⟨a1, 3, none⟩) (nb b4) (.int .i64 ((q0e a3 a0).f3))).trans a5; replace a6 := (cell_far (p := ⟨a1, 3, none⟩) (nb b4) (.int .i64 ((q0e a3 a0).f3))).trans a6; clear b1 b2 b3 b4; replace e8 := eq_true e8; replace f4 := eq_true f4) | ((with_reducible refine gD 7 ?_); (try (refine q1e (by rfl) ?_; dsimp only)); refine bz 7 #[.slice none 0 0, .int .i64 0, .int .i64 0, .int .i64 0] 49 HB ?_; clear HB; intro e3 hg s8 hb g0 g8 HB; have f6 := nL hg a9; have d5 := nG hg a9; replace a9 := kB a9 hb; have f8 := nL hg b0; have d6 := nG hg b0; replace b0 := kB b0 hb; have f9 := am ((by rw [hg]; exact Nat.ne_of_lt (q2h (g := a1) (o := .cells #[.slice a7 ((q0e a3 a0).f0).length a8, .int .i64 ((q0e a3 a0).f1), .int .i64 ((q0e a3 a0).f2), .int .i64 ((q0e a3 a0).f3)] 49 (0, 0)) (pP b5.out)) : a1 ≠ e3)); have d7 := am ((by rw [hg]; exact Nat.ne_of_gt (q2h (g := a1) (o := .cells #[.slice a7 ((q0e a3 a0).f0).length a8, .int .i64 ((q0e a3 a0).f1), .int .i64 ((q0e a3 a0).f2), .int .i64 ((q0e a3 a0).f3)] 49 (0, 0)) (pP b5.out)) : e3 ≠ a1)); replace b5 := am (q0b (g := a1) (o := .cells #[.slice a7 ((q0e a3 a0).f0).length a8, .int .i64 ((q0e a3 a0).f1), .int .i64 ((q0e a3 a0).f2), .int .i64 ((q0e a3 a0).f3)] 49 (0, 0)) (pP b5.out) hb); clear hb hg; have r0 := nn d5; have r1 := nn d6; have r2 := nn d7; have m5 := y4 g0; have m6 := y4 b5) | ((with_reducible refine gC 73 ?_); refine gL 39 Try.func73 #[.slice a7 ((q0e a3 a0).f0).length a8, .slice e5 ((q0e d8 a0).f0).length e6] ?_; (with_reducible refine (Fh.calls k2 _ _ ((q0e a3 a0).f0) _ _ ((q0e d8 a0).f0) false _ ?side1 ?side2 ?side3 ?side4 i5.out).mono ?_); (case side1 => exact Kd.C_below e1.out (pB HB.out)); (case side2 => exact d9.out); (case side3 => exact Kd.C_below e2.out (pB HB.out)); (case side4 => exact e0.out); rintro e w' ⟨rfl, ⟨nd, rfl⟩⟩; refine ⟨_, rfl, ?_⟩))
         go_ret
         exact ⟨er, pB HB.out⟩
        rw [if_neg k1] at H
        exact absurd H (by simp)
       rw [if_neg k0] at H
       exact absurd H (by simp)
      rw [if_neg j9] at H
      exact absurd H (by simp)
     rw [if_neg i4] at H
     have i8 := decide_eq_false i4
     clear i4
     obtain rfl := Option.some.inj H
     go_wp2
     go_ret
     exact ⟨er, pB HB.out⟩
end Go.Proofs.Ytabmkighhmchmaa.X
