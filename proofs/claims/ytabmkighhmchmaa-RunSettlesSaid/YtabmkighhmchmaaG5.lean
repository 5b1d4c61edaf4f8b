/- Words and walks for the law RunSettles, joined and made small by a program of mine. -/
import Derived.Test.YtabmkighhmchmaaG4
import Derived.Test.YtabmkighhmchmaaG3
import Derived.Maps.OwnSet
import Derived.Maps.OwnIn
import Derived.Deep.LoopGhost
import Derived.Test.YtabmkighhmchmaaG2
import Derived.LoopTactic
import Derived.Outline
import Derived.BigRegion
namespace Go.Proofs.Ytabmkighhmchmaa
open Go.RowKit Go.Shelf Go.YW.PrintWords Go.YW.PrintLast Go.YW.PrintMore Go.YW.Sq
open X (S49 S51 k49 k51 q0e q0c q1q q1u z51)
set_option linter.unusedVariables false
set_option linter.unusedSimpArgs false
attribute [local go_sem] Oper.semAt_some
open Go.Maps
theorem law3 : Keyed Try.prog 3 := int_keyed Try.underlying3
theorem zero4 (w : World) : (zeroValue 4).run Try.prog w = .ok (.bool false) w := by kernel_rfl
def keysI (L : List Int) : List Lit := L.map fun x => Lit.int .i64 x
def isSet (w : World) (b n : Nat) (L : List Int) : Prop := w.ownsMap Try.prog 3 (plainElem (H := Unit) Try.prog 4) b n (setOf (.lit (.bool true)) (keysI L))
theorem isSet_made (w : World) : isSet (w.alloc (.map #[] 0)) w.heap.size 0 [] := World.ownsMap_made w _ _ _
theorem q1h {w w1 : World} {b n : Nat} {L : List Int} (h : isSet w b n L) (hb : Below w.heap.size w w1) : isSet w1 b n L := by
 obtain ⟨es, a0, hh, F, hs, hD⟩ := h
 have a1 : b < w.heap.size := by
  rcases Nat.lt_or_ge b w.heap.size with h | h
  ·
   exact h
  rw [Array.getElem?_eq_none h] at hh; cases hh
 exact ⟨es, a0, (hb.block b a1).trans hh, F, hs, hD⟩
theorem at_fold (y : Int) : ∀ (L : List Int) (m : DataW Unit), IsMap m → ((keysI L).foldl (fun m x => m.put x (.lit (.bool true))) m).atKey (.int .i64 y) (.lit (.bool false)) = if L.contains y = true then .lit (.bool true) else m.atKey (.int .i64 y) (.lit (.bool false))
 | [], m, _ => by simp [keysI]
 | x :: r, m, hm => by
  rw [show keysI (x :: r) = Lit.int .i64 x :: keysI r from rfl, List.foldl_cons, at_fold y r _ (hm.put _ _)]
  by_cases e : y = x
  ·
   subst e
   rw [atKey_put_same hm (show WideAt.IsKeyLit (.int .i64 y) from trivial)]
   simp
  rw [atKey_put_other (fun h => e (by injection h))]
  simp [e]
theorem at_setOf (y : Int) (L : List Int) : (setOf (H := Unit) (.lit (.bool true)) (keysI L)).atKey (.int .i64 y) (.lit (.bool false)) = .lit (.bool (L.contains y)) := by
 unfold setOf
 rw [at_fold y L _ isMap_empty]
 cases L.contains y <;> rfl
theorem bool_inv {v : Value} {b : Bool} {ps : List MemPlace} (h : plainElem (H := Unit) Try.prog 4 v = some (.lit (.bool b), ps)) : v = .bool b := by
 unfold plainElem at h
 rw [Try.underlying4] at h
 cases v <;> simp at h
 exact congrArg Value.bool h.1
section
variable {w w1 : World} {b n g base e : Nat} {L : List Int} {ok : Nat → Prop} {v : Value} {α : Type} {d : Kd α} {xs : List α} {cs : Array Value} {ty : Nat}
theorem isSet_ne (hm : isSet w b n L) (h : w.heap[g]? = some (.cells cs ty (0, 0))) : some g ≠ some b := by
 rintro he
 obtain ⟨es, a0, hh, _⟩ := hm
 injection he with he
 subst he
 rw [h] at hh
 cases hh
theorem q3m (hg : w.grownBy w1 (some b)) (hm : isSet w b n L) (h : w.heap[g]? = some (.cells cs ty (0, 0))) : w1.heap[g]? = some (.cells cs ty (0, 0)) := by
 have a0 : g < w.heap.size := by
  rcases Nat.lt_or_ge g w.heap.size with h' | h'
  ·
   exact h'
  rw [Array.getElem?_eq_none h'] at h; cases h
 exact (hg.block g a0 (isSet_ne hm h)).trans h
end
theorem isSet_own {A B : World} {b n bnd : Nat} {L : List Int} {row : Option Nat} (h : isSet A b n L) (hg : A.grownBy B row) (hr : ∀ r, row = some r → bnd ≤ r) (hb : b < bnd) : isSet B b n L :=
 World.ownsMap.kept h hg (fun e => by have := hr b e.symm; omega)
theorem look_ {ops : Array Oper} {Q : Exit → Act → World → Prop} {oi : Oper} {N : Option Tmp} {a : Act} {w : World} {K : Act → World → Prop} (hw : Region.wanted oi (yielded ops a.tmps) = true) (hN : oi.dst = N) (m x : Operand) (a1 : oi.op = Op.lookup 65 m x false) (b n : Nat) (L : List Int) (hm : a.eval m = .map (some b)) (h : isSet w b n L) (y : Int) (hx : a.eval x = .int .i64 y) (h0 : -9223372036854775808 ≤ y) (h1 : y < 9223372036854775808)
  (hK : K (a.put N (.bool (L.contains y))) w) : if Region.wanted oi (yielded ops a.tmps) = true then Oper.wp Try.prog oi a w K Q else K (a.put N undef) w := by
 subst hN
 rw [if_pos hw]
 obtain ⟨v, ps, a0, hv⟩ := World.ownsMap.lookup h law3 Try.underlying65 (zero4 w) (plainElem_bool Try.underlying4 false) (keyOf_int_mk Try.underlying3 (a := y) (q := .i64) (WalkArith.wf_i64 (by omega)))
 rw [at_setOf] at hv
 have e := bool_inv hv
 subst e
 unfold Oper.wp
 simp [execOp, a1, hm, hx, a0, Result.andThen]
 show K (a.put oi.dst (.bool (decide (y ∈ L)))) w
 simpa using hK
theorem put_in {F : Fence} {nF : Nat} {ops : Array Oper} {rest : List Oper} {o : Oper} {a : Act} {Q : Exit → Act → World → Prop} (w : World) (hg : o.guard = none) (m x v : Operand) (a0 : o.op = Op.mapUpdate 65 m x v) (b n : Nat) (L : List Int) (hm : a.eval m = .map (some b)) (h : isSet w b n L) (hn : n ≤ 1000000) (y : Int) (hx : a.eval x = .int .i64 y) (hv : a.eval v = .bool true) (h0 : -9223372036854775808 ≤ y) (h1 : y < 9223372036854775808)
  (hK : ∀ w', isSet w' b (n + 1) (L ++ [y]) → w.grownBy w' (some b) → wpListIn F nF Try.prog ops Q rest (a.put o.dst undef) w') : wpListIn F nF Try.prog ops Q (o :: rest) a w := by
 refine wpListIn_mapUpdate_own w hg m x v 65 a0 3 4 law3 Try.underlying65 _ b n _ hm h (by unfold maxLen; omega) _ _ (.int .i64 y) hx hv (keyOf_int_mk Try.underlying3 (WalkArith.wf_i64 (by omega))) _ [] (plainElem_bool Try.underlying4 true) ?_
 intro w' h1 h2
 refine hK w' ?_ h2
 unfold isSet
 rw [show keysI (L ++ [y]) = keysI L ++ [Lit.int .i64 y] by simp [keysI], setOf_snoc]
 exact h1
theorem load4 (w : World) (g : Nat) (v : Value) (h : w.cell? ⟨g, 0, none⟩ = some v) : (loadVar 4 ⟨g, 0, none⟩).run Try.prog w = .ok v w := by
 have hu := Try.underlying4
 simp [loadVar, hu, h, go_sem]
theorem q3l {P : Program} {fn : Func} {p : Tmp} {ty : TypeId} (h : fn.results = #[.cell p ty]) (tmps : Array Value) (w : World) (g : Nat) (v : Value) (hp : tmps.getD p undef = .pointer (some ⟨g, 0, none⟩)) (hl : (loadVar ty ⟨g, 0, none⟩).run P w = .ok v w) : (results fn tmps).run P w = .ok v w := by
 have h1 : tmps[p]?.getD undef = .pointer (some ⟨g, 0, none⟩) := by simpa using hp
 simp [results, h, h1, asAddr, hl]
def calm (Q : Exit → Act → World → Prop) : Exit → Act → World → Prop
 | .panic _, _, _ => False
 | .outgrown, _, _ => False
 | .normal, a, w => Q .normal a w
 | .exit i, a, w => Q (.exit i) a w
 | .goto l, a, w => Q (.goto l) a w
 | .ret, a, w => Q .ret a w
theorem wp_calm {P : Program} {c : Code} {Q : Exit → Act → World → Prop} {a : Act} {w : World} (h : c.wp P (calm Q) a w) : c.wp P Q a w := wp_mono h (fun e a w h => by cases e <;> first | exact h | exact h.elim)
theorem calm_normal {Q : Exit → Act → World → Prop} {a : Act} {w : World} (h : Q .normal a w) : calm Q .normal a w := h
theorem ready_n (ky nm : ByteArray) (A1 : Option Addr) (c1 : Nat) (ts : List S49) (n : Nat) (hn : ts.length = n) (is : Int) (A2 : Option Addr) (c2 : Nat) (xs : List S51) (i : Int) (b : Bool) (w : World) (hT : Kd.C k49 w A1 ts.length ts) (hC : Kd.C k51 w A2 xs.length xs) (h : readyO ts xs i = some b) :
  Calls Try.prog 45 #[.agg (runV ky nm A1 n c1 is A2 xs.length c2), .int .i64 i] w fun e w' => e = .returned (.bool b) ∧ Below w.heap.size w w' := by
 subst hn
 exact ready_calls ky nm A1 c1 ts is A2 c2 xs i b w hT hC h
theorem q4v {k : Nat} {t : S49} {s : S51} {b : Bool} (h : q4n k t s = some b) : X.Fz.f k t.f0 t.f1 t.f2 t.f3 s.f0 s.f1 s.f2 s.f3 s.f4 = some b := h
def nameB (ky : ByteArray) : Bool := if ky.size < 1 then false else if 16 < ky.size then false else true
theorem rightF_cases {k : Nat} {ky nm : ByteArray} {ts : List S49} {is : Int} {xs : List S51} {b : Bool} (h : q3y k ky nm ts is xs = some b) :
  (nameB ky = false ∧ b = false) ∨ (nameB ky = true ∧ ∃ e, Fy.f k nm ts = some e ∧ ((e ≠ 0 ∧ b = false) ∨ (e = 0 ∧ ((xs.length ≠ ts.length ∧ b = false) ∨ (xs.length = ts.length ∧ xs.length ≤ 1000000 ∧ ((is ≠ q1n xs ∧ b = false) ∨ (is = q1n xs ∧ goodRight k ts xs = true ∧ ∃ b1, q3x k ts xs (List.finRange xs.length) [] = some b1 ∧ b = (if b1 = false then false else endF is xs)))))))) := by
 unfold q3y at h
 unfold nameB
 by_cases h1 : ky.size < 1
 ·
  rw [if_pos h1] at h ⊢; exact .inl ⟨rfl, (Option.some.inj h).symm⟩
 rw [if_neg h1] at h ⊢
 by_cases h2 : 16 < ky.size
 ·
  rw [if_pos h2] at h ⊢; exact .inl ⟨rfl, (Option.some.inj h).symm⟩
 rw [if_neg h2] at h ⊢
 obtain ⟨e, he, h⟩ := Option.bind_eq_some_iff.1 h
 refine .inr ⟨rfl, e, he, ?_⟩
 by_cases h3 : e ≠ 0
 ·
  rw [if_pos h3] at h; exact .inl ⟨h3, (Option.some.inj h).symm⟩
 rw [if_neg h3] at h
 refine .inr ⟨by simpa using h3, ?_⟩
 by_cases h4 : xs.length ≠ ts.length
 ·
  rw [if_pos h4] at h; exact .inl ⟨h4, (Option.some.inj h).symm⟩
 rw [if_neg h4] at h
 by_cases h5 : 1000000 < xs.length
 ·
  rw [if_pos h5] at h; cases h
 rw [if_neg h5] at h
 refine .inr ⟨by omega, by omega, ?_⟩
 by_cases h6 : is ≠ q1n xs
 ·
  rw [if_pos h6] at h; exact .inl ⟨h6, (Option.some.inj h).symm⟩
 rw [if_neg h6] at h
 by_cases h7 : goodRight k ts xs = false
 ·
  rw [if_pos h7] at h; cases h
 rw [if_neg h7] at h
 obtain ⟨b1, a0, h⟩ := Option.bind_eq_some_iff.1 h
 refine .inr ⟨by simpa using h6, by simpa using h7, b1, a0, ?_⟩
 cases b1
 ·
  rw [if_pos rfl] at h ⊢; exact (Option.some.inj h).symm
 rw [if_neg (by decide)] at h ⊢; exact (Option.some.inj h).symm
def toks (xs : List S51) (a0 : List (Fin xs.length)) : List Int := a0.map fun y => (q0c xs (y.val : Int)).f3
theorem q3j (k : Nat) (ts : List S49) (xs : List S51) : ∀ (l : List (Fin xs.length)) (t1 t2 : List Int), (∀ y, y ∈ t1 ↔ y ∈ t2) → q3x k ts xs l t1 = q3x k ts xs l t2
 | [], _, _, _ => rfl
 | x :: l, t1, t2, h => by
  have h2 : ∀ y, y ∈ (q0c xs (x.val : Int)).f3 :: t1 ↔ y ∈ (q0c xs (x.val : Int)).f3 :: t2 := fun y => by rw [List.mem_cons, List.mem_cons, h y]
  rw [q3x, q3x]
  congr 1
  funext b
  simp only [h (q0c xs (x.val : Int)).f3, q3j k ts xs l _ _ h2]
set_option maxHeartbeats 8000000 in
set_option maxRecDepth 100000 in
theorem q4y (k : Nat) (ky nm : ByteArray) (A1 : Option Addr) (c1 : Nat) (ts : List S49) (is : Int) (A2 : Option Addr) (c2 : Nat) (xs : List S51) (b : Bool) (w : World) (hT : Kd.C k49 w A1 ts.length ts) (ht : ts.length ≤ c1) (hC : Kd.C k51 w A2 xs.length xs) (h : q3y k ky nm ts is xs = some b) :
  Calls Try.prog 17 #[.agg (runV ky nm A1 ts.length c1 is A2 xs.length c2)] w fun e w' => e = .returned (.bool b) ∧ Below w.heap.size w w' := by
 have k8 := Try.underlying27
 have k6 := Try.underlying24
 have k9 := Try.underlying49
 have l0 := Try.underlying51
 have k5 := Try.underlying22
 have k7 := Try.underlying25
 have HC := am hC
 have HT := am hT
 have i3 := am ht
 have HB := am (Below.refl w.heap.size w)
 have HH := am (rightF_cases h)
 clear hT hC h ht
 rcases HH.out with ⟨hn, rfl⟩ | ⟨hn, e_, he, hh⟩
 ·
  have f5 := am hn
  clear HH hn
  go_enter Try.func17, Try.ntmps17
  go_upto_region 1 with (first | ((with_reducible refine gD 1 ?_); refine bz 1 (#[(.string ky), (.string nm), (.slice A1 ts.length c1), (.int .i64 is), (.slice A2 xs.length c2)] : Array Value) 27 HB ?_; clear HB; intro g1 hg f7 hb B1 e8 HB; clear hb hg) | ((with_reducible refine gD 2 ?_); refine bz 2 (#[(.bool false)] : Array Value) 4 HB ?_; clear HB; intro g2 hg f8 hb B2 e9 HB; have a9 := nP hg B1; have b9 := am a9.out.symm; replace B1 := kP B1 hb; clear hb hg))
  refine q2i (n := 27) (S := fun w' => w'.cell? ⟨g1, 0, none⟩ = some (.string ky) ∧ w'.cell? ⟨g1, 1, none⟩ = some (.string nm) ∧ w'.cell? ⟨g1, 2, none⟩ = some (.slice A1 ts.length c1) ∧ w'.cell? ⟨g1, 3, none⟩ = some (.int .i64 is) ∧ w'.cell? ⟨g1, 4, none⟩ = some (.slice A2 xs.length c2)) (ds := []) (ba 27 0) (by kernel_rfl) rfl rfl ⟨((q0i (q0g B1.out) 0).trans rfl), ((q0i (q0g B1.out) 1).trans rfl), ((q0i (q0g B1.out) 2).trans rfl), ((q0i (q0g B1.out) 3).trans rfl), ((q0i (q0g B1.out) 4).trans rfl)⟩ (fun a4 => ?_)
  refine ph 0 7 (ba 27 1) ?_
  refine th 1 8 (ba 27 3) a4 ?_
  refine oh 2 9 (ba 27 7) fun K hK => ?_
  refine q2c Try.func28 (by kernel_rfl) rfl #[.string ky] (by rfl) rfl rfl (by simp only [List.map_toArray, List.map_cons, List.map_nil]; rfl) ?_
  with_reducible refine (q3e ky false (by have h_ := f5.out; unfold nameB at h_; exact h_) _).mono ?_
  rintro e w3 ⟨rfl, hb⟩
  refine ⟨_, rfl, ?_⟩
  have X1 := am (q0b (q0g B1.out) hb)
  have X2 := am (q0b (q0g B2.out) hb)
  have XB := am (q0j (q0a HB.out) hb)
  clear B1 B2 HB hb
  have B1 := X1
  have B2 := X2
  have HB := XB
  clear X1 X2 XB
  refine hK.out _ _ ⟨(bc B1.out), (bc B1.out), (bc B1.out), (bc B1.out), (bc B1.out)⟩ (fun a4 => ?_)
  clear hK K
  refine nh ?_
  refine ph 3 10 (ba 27 15) ?_
  refine ph 4 11 (ba 27 31) ?_
  refine pj 5 12 (ba 27 63) ?_
  refine pj 6 13 (ba 27 127) ?_
  refine pj 7 14 (ba 27 255) ?_
  refine pj 8 15 (ba 27 511) ?_
  refine ph 9 16 (ba 27 1023) ?_
  refine ph 10 17 (ba 27 2047) ?_
  refine pj 11 18 (ba 27 4095) ?_
  refine pj 12 19 (ba 27 8191) ?_
  refine pj 13 20 (ba 27 16383) ?_
  refine pj 14 21 (ba 27 32767) ?_
  refine pj 15 22 (ba 27 65535) ?_
  refine pj 16 23 (ba 27 131071) ?_
  refine pj 17 24 (ba 27 262143) ?_
  refine pj 18 25 (ba 27 524287) ?_
  refine ph 19 26 (ba 27 1048575) ?_
  refine ph 20 27 (ba 27 2097151) ?_
  refine pj 21 28 (ba 27 4194303) ?_
  refine pj 22 29 (ba 27 8388607) ?_
  refine pj 23 30 (ba 27 16777215) ?_
  refine pj 24 31 (ba 27 33554431) ?_
  refine pj 25 32 (ba 27 67108863) ?_
  refine ph 26 33 (ba 27 134217727) ?_
  refine q2a (by kernel_rfl) ?_
  have q0 := ce1 B2.out
  have b8 := z1 B2.out
  go_wp2
  refine bodyPost_ret (q3l rfl _ _ g2 (.bool false) rfl (load4 _ _ _ ((q0i (pP (cs' := #[.bool false]) B2.out) 0).trans rfl))) rfl ?_
  exact ⟨rfl, pB HB.out⟩
 have f5 := am hn
 have HE := am he
 clear HH hn he
 rcases hh with ⟨h0, rfl⟩ | ⟨rfl, hh⟩
 ·
  have HDR := am (fun (W : World) (hW : Below w.heap.size w W) => show Calls Try.prog 29 #[.agg #[.string nm, .slice A1 ts.length c1]] W (fun e w' => e = .returned (.int .i64 e_) ∧ Below W.heap.size W w') from Fy.calls k nm A1 c1 ts _ W (Kd.C_below HT.out hW) i3.out HE.out)
  have E1 := bne_iff_ne.2 h0
  clear h0
  go_enter Try.func17, Try.ntmps17
  go_upto_region 1 with (first | ((with_reducible refine gD 1 ?_); refine bz 1 (#[(.string ky), (.string nm), (.slice A1 ts.length c1), (.int .i64 is), (.slice A2 xs.length c2)] : Array Value) 27 HB ?_; clear HB; intro g1 hg f7 hb B1 e8 HB; clear hb hg) | ((with_reducible refine gD 2 ?_); refine bz 2 (#[(.bool false)] : Array Value) 4 HB ?_; clear HB; intro g2 hg f8 hb B2 e9 HB; have a9 := nP hg B1; have b9 := am a9.out.symm; replace B1 := kP B1 hb; clear hb hg))
  refine q2i (n := 27) (S := fun w' => w'.cell? ⟨g1, 0, none⟩ = some (.string ky) ∧ w'.cell? ⟨g1, 1, none⟩ = some (.string nm) ∧ w'.cell? ⟨g1, 2, none⟩ = some (.slice A1 ts.length c1) ∧ w'.cell? ⟨g1, 3, none⟩ = some (.int .i64 is) ∧ w'.cell? ⟨g1, 4, none⟩ = some (.slice A2 xs.length c2)) (ds := []) (ba 27 0) (by kernel_rfl) rfl rfl ⟨((q0i (q0g B1.out) 0).trans rfl), ((q0i (q0g B1.out) 1).trans rfl), ((q0i (q0g B1.out) 2).trans rfl), ((q0i (q0g B1.out) 3).trans rfl), ((q0i (q0g B1.out) 4).trans rfl)⟩ (fun a4 => ?_)
  refine ph 0 7 (ba 27 1) ?_
  refine th 1 8 (ba 27 3) a4 ?_
  refine oh 2 9 (ba 27 7) fun K hK => ?_
  refine q2c Try.func28 (by kernel_rfl) rfl #[.string ky] (by rfl) rfl rfl (by simp only [List.map_toArray, List.map_cons, List.map_nil]; rfl) ?_
  with_reducible refine (q3e ky true (by have h_ := f5.out; unfold nameB at h_; exact h_) _).mono ?_
  rintro e w3 ⟨rfl, hb⟩
  refine ⟨_, rfl, ?_⟩
  have X1 := am (q0b (q0g B1.out) hb)
  have X2 := am (q0b (q0g B2.out) hb)
  have XB := am (q0j (q0a HB.out) hb)
  clear B1 B2 HB hb
  have B1 := X1
  have B2 := X2
  have HB := XB
  clear X1 X2 XB
  refine hK.out _ _ ⟨(bc B1.out), (bc B1.out), (bc B1.out), (bc B1.out), (bc B1.out)⟩ (fun a4 => ?_)
  clear hK K
  refine nh ?_
  refine ph 3 10 (ba 27 15) ?_
  refine ph 4 11 (ba 27 31) ?_
  refine ph 5 12 (ba 27 63) ?_
  refine th 6 13 (ba 27 127) a4 ?_
  refine oh 7 14 (ba 27 255) fun K hK => ?_
  refine q2c Try.func29 (by kernel_rfl) rfl #[.agg #[.string nm, .slice A1 ts.length c1]] (by rfl) rfl rfl (by simp only [List.map_toArray, List.map_cons, List.map_nil]; rfl) ?_
  with_reducible refine (HDR.out _ HB.out).mono ?_
  rintro e w4 ⟨rfl, hb⟩
  refine ⟨_, rfl, ?_⟩
  have X1 := am (q0b B1.out hb)
  have X2 := am (q0b B2.out hb)
  have XB := am (q0j HB.out hb)
  clear B1 B2 HB hb
  have B1 := X1
  have B2 := X2
  have HB := XB
  clear X1 X2 XB
  refine hK.out _ _ ⟨(bc B1.out), (bc B1.out), (bc B1.out), (bc B1.out), (bc B1.out)⟩ (fun a4 => ?_)
  clear hK K
  refine nh ?_
  refine ph 8 15 (ba 27 511) ?_
  refine ph 9 16 (ba 27 1023) ?_
  refine ph 10 17 (ba 27 2047) ?_
  refine pj 11 18 (ba 27 4095) ?_
  refine pj 12 19 (ba 27 8191) ?_
  refine pj 13 20 (ba 27 16383) ?_
  refine pj 14 21 (ba 27 32767) ?_
  refine pj 15 22 (ba 27 65535) ?_
  refine pj 16 23 (ba 27 131071) ?_
  refine pj 17 24 (ba 27 262143) ?_
  refine pj 18 25 (ba 27 524287) ?_
  refine ph 19 26 (ba 27 1048575) ?_
  refine ph 20 27 (ba 27 2097151) ?_
  refine pj 21 28 (ba 27 4194303) ?_
  refine pj 22 29 (ba 27 8388607) ?_
  refine pj 23 30 (ba 27 16777215) ?_
  refine pj 24 31 (ba 27 33554431) ?_
  refine pj 25 32 (ba 27 67108863) ?_
  refine ph 26 33 (ba 27 134217727) ?_
  refine q2a (by kernel_rfl) ?_
  have q0 := ce1 B2.out
  have b8 := z1 B2.out
  go_wp2
  refine bodyPost_ret (q3l rfl _ _ g2 (.bool false) rfl (load4 _ _ _ ((q0i (pP (cs' := #[.bool false]) B2.out) 0).trans rfl))) rfl ?_
  exact ⟨rfl, pB HB.out⟩
 rcases hh with ⟨h0, rfl⟩ | ⟨f6, hl, hh⟩
 ·
  have HDR := am (fun (W : World) (hW : Below w.heap.size w W) => show Calls Try.prog 29 #[.agg #[.string nm, .slice A1 ts.length c1]] W (fun e w' => e = .returned (.int .i64 0) ∧ Below W.heap.size W w') from Fy.calls k nm A1 c1 ts _ W (Kd.C_below HT.out hW) i3.out HE.out)
  have E1 : ((xs.length : Int) != (ts.length : Int)) = true := bne_iff_ne.2 (by omega)
  clear h0
  go_enter Try.func17, Try.ntmps17
  go_upto_region 1 with (first | ((with_reducible refine gD 1 ?_); refine bz 1 (#[(.string ky), (.string nm), (.slice A1 ts.length c1), (.int .i64 is), (.slice A2 xs.length c2)] : Array Value) 27 HB ?_; clear HB; intro g1 hg f7 hb B1 e8 HB; clear hb hg) | ((with_reducible refine gD 2 ?_); refine bz 2 (#[(.bool false)] : Array Value) 4 HB ?_; clear HB; intro g2 hg f8 hb B2 e9 HB; have a9 := nP hg B1; have b9 := am a9.out.symm; replace B1 := kP B1 hb; clear hb hg))
  refine q2i (n := 27) (S := fun w' => w'.cell? ⟨g1, 0, none⟩ = some (.string ky) ∧ w'.cell? ⟨g1, 1, none⟩ = some (.string nm) ∧ w'.cell? ⟨g1, 2, none⟩ = some (.slice A1 ts.length c1) ∧ w'.cell? ⟨g1, 3, none⟩ = some (.int .i64 is) ∧ w'.cell? ⟨g1, 4, none⟩ = some (.slice A2 xs.length c2)) (ds := []) (ba 27 0) (by kernel_rfl) rfl rfl ⟨((q0i (q0g B1.out) 0).trans rfl), ((q0i (q0g B1.out) 1).trans rfl), ((q0i (q0g B1.out) 2).trans rfl), ((q0i (q0g B1.out) 3).trans rfl), ((q0i (q0g B1.out) 4).trans rfl)⟩ (fun a4 => ?_)
  refine ph 0 7 (ba 27 1) ?_
  refine th 1 8 (ba 27 3) a4 ?_
  refine oh 2 9 (ba 27 7) fun K hK => ?_
  refine q2c Try.func28 (by kernel_rfl) rfl #[.string ky] (by rfl) rfl rfl (by simp only [List.map_toArray, List.map_cons, List.map_nil]; rfl) ?_
  with_reducible refine (q3e ky true (by have h_ := f5.out; unfold nameB at h_; exact h_) _).mono ?_
  rintro e w3 ⟨rfl, hb⟩
  refine ⟨_, rfl, ?_⟩
  have X1 := am (q0b (q0g B1.out) hb)
  have X2 := am (q0b (q0g B2.out) hb)
  have XB := am (q0j (q0a HB.out) hb)
  clear B1 B2 HB hb
  have B1 := X1
  have B2 := X2
  have HB := XB
  clear X1 X2 XB
  refine hK.out _ _ ⟨(bc B1.out), (bc B1.out), (bc B1.out), (bc B1.out), (bc B1.out)⟩ (fun a4 => ?_)
  clear hK K
  refine nh ?_
  refine ph 3 10 (ba 27 15) ?_
  refine ph 4 11 (ba 27 31) ?_
  refine ph 5 12 (ba 27 63) ?_
  refine th 6 13 (ba 27 127) a4 ?_
  refine oh 7 14 (ba 27 255) fun K hK => ?_
  refine q2c Try.func29 (by kernel_rfl) rfl #[.agg #[.string nm, .slice A1 ts.length c1]] (by rfl) rfl rfl (by simp only [List.map_toArray, List.map_cons, List.map_nil]; rfl) ?_
  with_reducible refine (HDR.out _ HB.out).mono ?_
  rintro e w4 ⟨rfl, hb⟩
  refine ⟨_, rfl, ?_⟩
  have X1 := am (q0b B1.out hb)
  have X2 := am (q0b B2.out hb)
  have XB := am (q0j HB.out hb)
  clear B1 B2 HB hb
  have B1 := X1
  have B2 := X2
  have HB := XB
  clear X1 X2 XB
  refine hK.out _ _ ⟨(bc B1.out), (bc B1.out), (bc B1.out), (bc B1.out), (bc B1.out)⟩ (fun a4 => ?_)
  clear hK K
  refine nh ?_
  refine ph 8 15 (ba 27 511) ?_
  refine ph 9 16 (ba 27 1023) ?_
  refine ph 10 17 (ba 27 2047) ?_
  refine ph 11 18 (ba 27 4095) ?_
  refine ph 14 21 (ba 27 20479) ?_
  refine ph 15 22 (ba 27 53247) ?_
  refine th 12 19 (ba 27 57343) a4 ?_
  refine ph 13 20 (ba 27 65535) ?_
  refine th 16 23 (ba 27 131071) a4 ?_
  refine ph 17 24 (ba 27 262143) ?_
  refine ph 18 25 (ba 27 524287) ?_
  refine ph 19 26 (ba 27 1048575) ?_
  refine ph 20 27 (ba 27 2097151) ?_
  refine pj 21 28 (ba 27 4194303) ?_
  refine pj 22 29 (ba 27 8388607) ?_
  refine pj 23 30 (ba 27 16777215) ?_
  refine pj 24 31 (ba 27 33554431) ?_
  refine pj 25 32 (ba 27 67108863) ?_
  refine ph 26 33 (ba 27 134217727) ?_
  refine q2a (by kernel_rfl) ?_
  have q0 := ce1 B2.out
  have b8 := z1 B2.out
  go_wp2
  refine bodyPost_ret (q3l rfl _ _ g2 (.bool false) rfl (load4 _ _ _ ((q0i (pP (cs' := #[.bool false]) B2.out) 0).trans rfl))) rfl ?_
  exact ⟨rfl, pB HB.out⟩
 have HL := am hl
 have i1 := am f6
 rw [← f6]
 have HDR := am (fun (W : World) (hW : Below w.heap.size w W) => show Calls Try.prog 29 #[.agg #[.string nm, .slice A1 xs.length c1]] W (fun e w' => e = .returned (.int .i64 0) ∧ Below W.heap.size W w') from by rw [i1.out]; exact Fy.calls k nm A1 c1 ts _ W (Kd.C_below HT.out hW) i3.out HE.out)
 clear f6 hl
 rcases hh with ⟨h0, rfl⟩ | ⟨rfl, hg, b1, d7, i9⟩
 ·
  have E1 := bne_iff_ne.2 h0
  clear h0
  go_enter Try.func17, Try.ntmps17
  go_upto_region 1 with (first | ((with_reducible refine gD 1 ?_); refine bz 1 (#[(.string ky), (.string nm), (.slice A1 xs.length c1), (.int .i64 is), (.slice A2 xs.length c2)] : Array Value) 27 HB ?_; clear HB; intro g1 hg f7 hb B1 e8 HB; clear hb hg) | ((with_reducible refine gD 2 ?_); refine bz 2 (#[(.bool false)] : Array Value) 4 HB ?_; clear HB; intro g2 hg f8 hb B2 e9 HB; have a9 := nP hg B1; have b9 := am a9.out.symm; replace B1 := kP B1 hb; clear hb hg))
  refine q2i (n := 27) (S := fun w' => w'.cell? ⟨g1, 0, none⟩ = some (.string ky) ∧ w'.cell? ⟨g1, 1, none⟩ = some (.string nm) ∧ w'.cell? ⟨g1, 2, none⟩ = some (.slice A1 xs.length c1) ∧ w'.cell? ⟨g1, 3, none⟩ = some (.int .i64 is) ∧ w'.cell? ⟨g1, 4, none⟩ = some (.slice A2 xs.length c2)) (ds := []) (ba 27 0) (by kernel_rfl) rfl rfl ⟨((q0i (q0g B1.out) 0).trans rfl), ((q0i (q0g B1.out) 1).trans rfl), ((q0i (q0g B1.out) 2).trans rfl), ((q0i (q0g B1.out) 3).trans rfl), ((q0i (q0g B1.out) 4).trans rfl)⟩ (fun a4 => ?_)
  refine ph 0 7 (ba 27 1) ?_
  refine th 1 8 (ba 27 3) a4 ?_
  refine oh 2 9 (ba 27 7) fun K hK => ?_
  refine q2c Try.func28 (by kernel_rfl) rfl #[.string ky] (by rfl) rfl rfl (by simp only [List.map_toArray, List.map_cons, List.map_nil]; rfl) ?_
  with_reducible refine (q3e ky true (by have h_ := f5.out; unfold nameB at h_; exact h_) _).mono ?_
  rintro e w3 ⟨rfl, hb⟩
  refine ⟨_, rfl, ?_⟩
  have X1 := am (q0b (q0g B1.out) hb)
  have X2 := am (q0b (q0g B2.out) hb)
  have XB := am (q0j (q0a HB.out) hb)
  clear B1 B2 HB hb
  have B1 := X1
  have B2 := X2
  have HB := XB
  clear X1 X2 XB
  refine hK.out _ _ ⟨(bc B1.out), (bc B1.out), (bc B1.out), (bc B1.out), (bc B1.out)⟩ (fun a4 => ?_)
  clear hK K
  refine nh ?_
  refine ph 3 10 (ba 27 15) ?_
  refine ph 4 11 (ba 27 31) ?_
  refine ph 5 12 (ba 27 63) ?_
  refine th 6 13 (ba 27 127) a4 ?_
  refine oh 7 14 (ba 27 255) fun K hK => ?_
  refine q2c Try.func29 (by kernel_rfl) rfl #[.agg #[.string nm, .slice A1 xs.length c1]] (by rfl) rfl rfl (by simp only [List.map_toArray, List.map_cons, List.map_nil]; rfl) ?_
  with_reducible refine (HDR.out _ HB.out).mono ?_
  rintro e w4 ⟨rfl, hb⟩
  refine ⟨_, rfl, ?_⟩
  have X1 := am (q0b B1.out hb)
  have X2 := am (q0b B2.out hb)
  have XB := am (q0j HB.out hb)
  clear B1 B2 HB hb
  have B1 := X1
  have B2 := X2
  have HB := XB
  clear X1 X2 XB
  refine hK.out _ _ ⟨(bc B1.out), (bc B1.out), (bc B1.out), (bc B1.out), (bc B1.out)⟩ (fun a4 => ?_)
  clear hK K
  refine nh ?_
  refine ph 8 15 (ba 27 511) ?_
  refine ph 9 16 (ba 27 1023) ?_
  refine ph 10 17 (ba 27 2047) ?_
  refine ph 11 18 (ba 27 4095) ?_
  refine ph 14 21 (ba 27 20479) ?_
  refine ph 15 22 (ba 27 53247) ?_
  refine th 12 19 (ba 27 57343) a4 ?_
  refine ph 13 20 (ba 27 65535) ?_
  refine th 16 23 (ba 27 131071) a4 ?_
  refine ph 17 24 (ba 27 262143) ?_
  refine ph 18 25 (ba 27 524287) ?_
  refine ph 19 26 (ba 27 1048575) ?_
  refine ph 20 27 (ba 27 2097151) ?_
  refine ph 21 28 (ba 27 4194303) ?_
  refine th 22 29 (ba 27 8388607) a4 ?_
  refine th 23 30 (ba 27 16777215) a4 ?_
  refine oh 24 31 (ba 27 33554431) fun K hK => ?_
  refine q2c Try.func42 (by kernel_rfl) rfl #[.agg (runV ky nm A1 xs.length c1 is A2 xs.length c2)] (by rfl) rfl rfl (by simp only [List.map_toArray, List.map_cons, List.map_nil]; rfl) ?_
  with_reducible refine (kind_calls ky nm A1 xs.length c1 is A2 c2 xs _ (Kd.C_below HC.out HB.out) HL.out).mono ?_
  rintro e w5 ⟨rfl, hb⟩
  refine ⟨_, rfl, ?_⟩
  have X1 := am (q0b B1.out hb)
  have X2 := am (q0b B2.out hb)
  have XB := am (q0j HB.out hb)
  clear B1 B2 HB hb
  have B1 := X1
  have B2 := X2
  have HB := XB
  clear X1 X2 XB
  refine hK.out _ _ ⟨(bc B1.out), (bc B1.out), (bc B1.out), (bc B1.out), (bc B1.out)⟩ (fun a4 => ?_)
  clear hK K
  refine nh ?_
  refine ph 25 32 (ba 27 67108863) ?_
  refine ph 26 33 (ba 27 134217727) ?_
  refine q2a (by kernel_rfl) ?_
  have q0 := ce1 B2.out
  have b8 := z1 B2.out
  go_wp2
  refine bodyPost_ret (q3l rfl _ _ g2 (.bool false) rfl (load4 _ _ _ ((q0i (pP (cs' := #[.bool false]) B2.out) 0).trans rfl))) rfl ?_
  exact ⟨rfl, pB HB.out⟩
 have HG := am hg
 have HR := am d7
 have h6 := am i9
 clear hg d7 i9
 have k4 := @run_makeMap Try.prog
 refine (callsIn_wide (n := 6)).1 ?_
 refine callsIn_of_wp_marks Try.func17 rfl trivial ?_ rfl
 simp only [Try.ntmps17, List.size_toArray, List.length_cons, List.length_nil, Nat.reduceAdd, Nat.reduceSub, Array.replicate_succ, Array.replicate_zero, List.push_toArray, List.append_toArray, List.nil_append, List.cons_append]
 have B1 := am (show ((w.alloc (.cells #[(.string ky), (.string nm), (.slice A1 xs.length c1), (.int .i64 (q1n xs)), (.slice A2 xs.length c2)] 27)).alloc (.cells #[.bool false] 4)).heap[w.heap.size]? = some (.cells (#[(.string ky), (.string nm), (.slice A1 xs.length c1), (.int .i64 (q1n xs)), (.slice A2 xs.length c2)] : Array Value) 27 (0, 0)) from q0h (q1j w (.cells #[(.string ky), (.string nm), (.slice A1 xs.length c1), (.int .i64 (q1n xs)), (.slice A2 xs.length c2)] 27)) _)
 have B2 := am (show ((w.alloc (.cells #[(.string ky), (.string nm), (.slice A1 xs.length c1), (.int .i64 (q1n xs)), (.slice A2 xs.length c2)] 27)).alloc (.cells #[.bool false] 4)).heap[w.heap.size + 1]? = some (.cells (#[(.bool false)] : Array Value) 4 (0, 0)) from (by have h_ := q1j (w.alloc (.cells #[(.string ky), (.string nm), (.slice A1 xs.length c1), (.int .i64 (q1n xs)), (.slice A2 xs.length c2)] 27)) (.cells #[.bool false] 4); rwa [World.size_alloc] at h_))
 have XB := am (show Below w.heap.size w ((w.alloc (.cells #[(.string ky), (.string nm), (.slice A1 xs.length c1), (.int .i64 (q1n xs)), (.slice A2 xs.length c2)] 27)).alloc (.cells #[.bool false] 4)) from q0d (q0d (Below.refl _ w) _) _)
 clear HB
 have HB := XB
 clear XB
 have l1 := am (show ((w.alloc (.cells #[(.string ky), (.string nm), (.slice A1 xs.length c1), (.int .i64 (q1n xs)), (.slice A2 xs.length c2)] 27)).alloc (.cells #[.bool false] 4)).heap.size = w.heap.size + 2 from by simp)
 gi_wp2
 generalize (w.alloc (.cells #[(.string ky), (.string nm), (.slice A1 xs.length c1), (.int .i64 (q1n xs)), (.slice A2 xs.length c2)] 27)).alloc (.cells #[.bool false] 4) = w2 at *
 refine wpIn_wide.2 (wp_calm ?_)
 refine q2i (n := 27) (S := fun w' => w'.cell? ⟨w.heap.size, 0, none⟩ = some (.string ky) ∧ w'.cell? ⟨w.heap.size, 1, none⟩ = some (.string nm) ∧ w'.cell? ⟨w.heap.size, 2, none⟩ = some (.slice A1 xs.length c1) ∧ w'.cell? ⟨w.heap.size, 3, none⟩ = some (.int .i64 (q1n xs)) ∧ w'.cell? ⟨w.heap.size, 4, none⟩ = some (.slice A2 xs.length c2)) (ds := []) (ba 27 0) (by kernel_rfl) rfl rfl ⟨((q0i (q0g B1.out) 0).trans rfl), ((q0i (q0g B1.out) 1).trans rfl), ((q0i (q0g B1.out) 2).trans rfl), ((q0i (q0g B1.out) 3).trans rfl), ((q0i (q0g B1.out) 4).trans rfl)⟩ (fun a4 => ?_)
 refine ph 0 7 (ba 27 1) ?_
 refine th 1 8 (ba 27 3) a4 ?_
 refine oh 2 9 (ba 27 7) fun K hK => ?_
 refine q2c Try.func28 (by kernel_rfl) rfl #[.string ky] (by rfl) rfl rfl (by simp only [List.map_toArray, List.map_cons, List.map_nil]; rfl) ?_
 with_reducible refine (q3e ky true (by have h_ := f5.out; unfold nameB at h_; exact h_) _).mono ?_
 rintro e w3 ⟨rfl, hb⟩
 refine ⟨_, rfl, ?_⟩
 have X1 := am (q0b (q0g B1.out) hb)
 have X2 := am (q0b (q0g B2.out) hb)
 have XB := am (q0j (q0a HB.out) hb)
 clear B1 B2 HB hb
 have B1 := X1
 have B2 := X2
 have HB := XB
 clear X1 X2 XB
 refine hK.out _ _ ⟨(bc B1.out), (bc B1.out), (bc B1.out), (bc B1.out), (bc B1.out)⟩ (fun a4 => ?_)
 clear hK K
 refine nh ?_
 refine ph 3 10 (ba 27 15) ?_
 refine ph 4 11 (ba 27 31) ?_
 refine ph 5 12 (ba 27 63) ?_
 refine th 6 13 (ba 27 127) a4 ?_
 refine oh 7 14 (ba 27 255) fun K hK => ?_
 refine q2c Try.func29 (by kernel_rfl) rfl #[.agg #[.string nm, .slice A1 xs.length c1]] (by rfl) rfl rfl (by simp only [List.map_toArray, List.map_cons, List.map_nil]; rfl) ?_
 with_reducible refine (HDR.out _ HB.out).mono ?_
 rintro e w4 ⟨rfl, hb⟩
 refine ⟨_, rfl, ?_⟩
 have X1 := am (q0b B1.out hb)
 have X2 := am (q0b B2.out hb)
 have XB := am (q0j HB.out hb)
 clear B1 B2 HB hb
 have B1 := X1
 have B2 := X2
 have HB := XB
 clear X1 X2 XB
 refine hK.out _ _ ⟨(bc B1.out), (bc B1.out), (bc B1.out), (bc B1.out), (bc B1.out)⟩ (fun a4 => ?_)
 clear hK K
 refine nh ?_
 refine ph 8 15 (ba 27 511) ?_
 refine ph 9 16 (ba 27 1023) ?_
 refine ph 10 17 (ba 27 2047) ?_
 refine ph 11 18 (ba 27 4095) ?_
 refine ph 14 21 (ba 27 20479) ?_
 refine ph 15 22 (ba 27 53247) ?_
 refine th 12 19 (ba 27 57343) a4 ?_
 refine ph 13 20 (ba 27 65535) ?_
 refine th 16 23 (ba 27 131071) a4 ?_
 refine ph 17 24 (ba 27 262143) ?_
 refine ph 18 25 (ba 27 524287) ?_
 refine ph 19 26 (ba 27 1048575) ?_
 refine ph 20 27 (ba 27 2097151) ?_
 refine ph 21 28 (ba 27 4194303) ?_
 refine th 22 29 (ba 27 8388607) a4 ?_
 refine th 23 30 (ba 27 16777215) a4 ?_
 refine oh 24 31 (ba 27 33554431) fun K hK => ?_
 refine q2c Try.func42 (by kernel_rfl) rfl #[.agg (runV ky nm A1 xs.length c1 (q1n xs) A2 xs.length c2)] (by rfl) rfl rfl (by simp only [List.map_toArray, List.map_cons, List.map_nil]; rfl) ?_
 with_reducible refine (kind_calls ky nm A1 xs.length c1 (q1n xs) A2 c2 xs _ (Kd.C_below HC.out HB.out) HL.out).mono ?_
 rintro e w5 ⟨rfl, hb⟩
 refine ⟨_, rfl, ?_⟩
 have X1 := am (q0b B1.out hb)
 have X2 := am (q0b B2.out hb)
 have XB := am (q0j HB.out hb)
 clear B1 B2 HB hb
 have B1 := X1
 have B2 := X2
 have HB := XB
 clear X1 X2 XB
 refine hK.out _ _ ⟨(bc B1.out), (bc B1.out), (bc B1.out), (bc B1.out), (bc B1.out)⟩ (fun a4 => ?_)
 clear hK K
 refine nh ?_
 refine ph 25 32 (ba 27 67108863) ?_
 refine ph 26 33 (ba 27 134217727) ?_
 refine q2a (by kernel_rfl) ?_
 obtain ⟨b0, b1, b2, b3, b4⟩ := ce5 B1.out
 have e0 : ((w5.alloc (.map #[] 0)).alloc (.cells #[.map (some w5.heap.size)] 65)).cell? ⟨w.heap.size, 0, none⟩ = some (.string ky) := (q0i (q0h (q0h B1.out _) _) 0).trans rfl
 have e1 : ((w5.alloc (.map #[] 0)).alloc (.cells #[.map (some w5.heap.size)] 65)).cell? ⟨w.heap.size, 1, none⟩ = some (.string nm) := (q0i (q0h (q0h B1.out _) _) 1).trans rfl
 have e2 : ((w5.alloc (.map #[] 0)).alloc (.cells #[.map (some w5.heap.size)] 65)).cell? ⟨w.heap.size, 2, none⟩ = some (.slice A1 xs.length c1) := (q0i (q0h (q0h B1.out _) _) 2).trans rfl
 have e3 : ((w5.alloc (.map #[] 0)).alloc (.cells #[.map (some w5.heap.size)] 65)).cell? ⟨w.heap.size, 3, none⟩ = some (.int .i64 (q1n xs)) := (q0i (q0h (q0h B1.out _) _) 3).trans rfl
 have e4 : ((w5.alloc (.map #[] 0)).alloc (.cells #[.map (some w5.heap.size)] 65)).cell? ⟨w.heap.size, 4, none⟩ = some (.slice A2 xs.length c2) := (q0i (q0h (q0h B1.out _) _) 4).trans rfl
 clear b0 b1 b2 b3 b4
 refine calm_normal ?_
 gi_wp2_with (refine ⟨trivial, ?_⟩; gi_at_call 43; refine (callsIn_wide.2 (q4s ky nm A1 xs.length c1 (q1n xs) A2 xs.length c2 _)).mono ?_; rintro e w7 ⟨gb, rfl, hg, j2, hb⟩; have i5 := am j2; have X1 := am (q0b (q0h (q0h B1.out _) _) hb); have X2 := am (q0b (q0h (q0h B2.out _) _) hb); have X3 := am (show w7.heap[w5.heap.size + 1]? = some (.cells #[.map (some w5.heap.size)] 65 (0, 0)) from q0b (by have h_ := q1j (w5.alloc (.map #[] 0)) (.cells #[.map (some w5.heap.size)] 65); rwa [World.size_alloc] at h_) hb); have XM := am (show isSet w7 w5.heap.size 0 (toks xs []) from q1h (q1h (isSet_made w5) (q0d (Below.refl _ _) _)) hb); have XB := am (q0j (q0d (q0d HB.out _) _) hb); have HS := am (show w5.heap.size + 2 ≤ w7.heap.size by have b5 := hb.size; simp at b5; omega); have d3 := am (show w.heap.size + 2 ≤ w5.heap.size from (by have b5 := Nat.lt_of_lt_of_le (q2h B2.out) (Nat.le_refl _); omega)); clear B1 B2 HB hg j2 hb k4 e0 e1 e2 e3 e4; have B1 := X1; have B2 := X2; have B3 := X3; have BM := XM; have HB := XB; clear X1 X2 X3 XM XB)
 refine wpIn_rangeFunc_ownH (w0 := w7) rfl (by omega) (gf := 78) (lb := #[.pointer (some ⟨gb, 0, none⟩)]) rfl trivial (enters_of Try.func78 (by kernel_rfl) rfl)
  (q5d 5 (by omega) gb ky nm A1 xs.length c1 (q1n xs) A2 c2 xs w w7 HC.out HL.out HB.out i5.out) belowK_t (belowK_b (by have b5 := HS.out; have c6 := d3.out; omega)) (Below.refl _ _) (fun _ => rfl)
  (fun b6 W => ((W.heap[w.heap.size]? = some (.cells (#[(.string ky), (.string nm), (.slice A1 xs.length c1), (.int .i64 (q1n xs)), (.slice A2 xs.length c2)] : Array Value) 27 (0, 0))) ∧ (W.heap[w.heap.size + 1]? = some (.cells (#[(.bool false)] : Array Value) 4 (0, 0))) ∧ (W.heap[w5.heap.size + 1]? = some (.cells #[.map (some w5.heap.size)] 65 (0, 0)))) ∧ ((isSet W w5.heap.size b6.length (toks xs b6)) ∧ (Below w.heap.size w W ∧ (w7.heap.size ≤ W.heap.size ∧ (∀ l, q3x k ts xs (b6 ++ l) [] = q3x k ts xs l (toks xs b6))))))
  (fun c b6 W => c = .ret ∧ W.heap[w.heap.size + 1]? = some (.cells (#[(.bool false)] : Array Value) 4 (0, 0)) ∧ Below w.heap.size w W ∧ ∀ l, q3x k ts xs (b6 ++ l) [] = some false)
  (OwnFrom.and (Own.from (fun s A B h9 hs hg hr => ⟨q1d hs.1 hg hr, q1d hs.2.1 hg hr, q1d hs.2.2 hg hr⟩) _) (OwnFrom.and (fun s A B h9 hs hg hr => isSet_own (bnd := w7.heap.size) hs hg (fun r e => (hr r e).1) (by have b5 := HS.out; omega)) (OwnFrom.and (ownFrom_below (Nat.le_refl _) (by have b5 := HS.out; have c6 := d3.out; omega)) (fun _ _ _ _ hs hg _ => ⟨Nat.le_trans hs.1 hg.size, hs.2⟩))))
  (fun c => fun s A B h9 hs hg hr => ⟨hs.1, q1d hs.2.1 hg (fun r e => (hr r e).2), (ownFrom_below (β := Unit) (Nat.le_refl _) (by have b5 := HS.out; have c6 := d3.out; omega)) () A B h9 hs.2.2.1 hg hr, hs.2.2.2⟩)
  ⟨⟨B1.out, B2.out, B3.out⟩, BM.out, HB.out, Nat.le_refl _, fun l => rfl⟩
  (fun x a' W => ∃ Bx, w7.heap.size ≤ Bx ∧ W.heap[Bx]? = some (.cells #[.int .i64 (q0c xs (x.val : Int)).f0, .int .i64 (q0c xs (x.val : Int)).f1, .int .i64 (q0c xs (x.val : Int)).f2, .int .i64 (q0c xs (x.val : Int)).f3, .string (q0c xs (x.val : Int)).f4] 51 (0, 0)) ∧ a' = { tmps := #[.agg (runV ky nm A1 xs.length c1 (q1n xs) A2 xs.length c2), .pointer (some ⟨w.heap.size, 0, none⟩), .pointer (some ⟨w.heap.size + 1, 0, none⟩), .pointer (some ⟨w5.heap.size + 1, 0, none⟩), .int .i64 ((x.val : Nat) : Int), .pointer (some ⟨Bx, 0, none⟩), undef, .pointer (some ⟨w.heap.size, 0, none⟩), .string ky, .bool true, .bool false, .bool false, .pointer (some ⟨w.heap.size, 1, none⟩), .agg #[.string nm, .slice A1 xs.length c1], .int .i64 0, .bool false, .bool false, .bool false, .pointer (some ⟨w.heap.size, 4, none⟩), .slice A2 xs.length c2, .int .i64 (xs.length : Int), .pointer (some ⟨w.heap.size, 1, none⟩), .pointer (some ⟨w.heap.size, 2, none⟩), .slice A1 xs.length c1, .int .i64 (xs.length : Int), .bool false, .bool false, .bool false, .pointer (some ⟨w.heap.size, 3, none⟩), .int .i64 (q1n xs), .agg #[(.string ky), (.string nm), (.slice A1 xs.length c1), (.int .i64 (q1n xs)), (.slice A2 xs.length c2)], .int .i64 (q1n xs), .bool false, .bool false, .map (some w5.heap.size), .agg #[(.string ky), (.string nm), (.slice A1 xs.length c1), (.int .i64 (q1n xs)), (.slice A2 xs.length c2)], .func (.func 78) #[] #[.pointer (some ⟨gb, 0, none⟩)], .int .i64 ((x.val : Nat) : Int), .agg #[.int .i64 (q0c xs (x.val : Int)).f0, .int .i64 (q0c xs (x.val : Int)).f1, .int .i64 (q0c xs (x.val : Int)).f2, .int .i64 (q0c xs (x.val : Int)).f3, .string (q0c xs (x.val : Int)).f4], undef, undef, undef, undef, undef, undef, undef, undef, undef, undef, undef, undef, undef, undef, undef, undef, undef, undef, undef, undef, undef, undef, undef, undef, undef, undef, undef, undef, undef, undef, undef, undef, undef, undef, undef, undef, undef, undef, undef, undef, undef, undef, undef, undef, undef, undef, undef, undef, undef, undef], defers := [] })
  (fun x a' => Own.from (fun s A B h9 hs hg hr => by obtain ⟨Bx, h1, h2, h3⟩ := hs; exact ⟨Bx, h1, q1d h2 hg hr, h3⟩) _) ?assign ?body ?done ?stop
 case assign =>
  rintro l b6 x W K ⟨⟨h1, h2, h3⟩, h4, hB, hS, hP⟩ hK
  have Z1 := am h1
  have Z2 := am h2
  have Z3 := am h3
  have Z4 := am h4
  have b7 := am hB
  have HW := am hS
  have i2 := am hP
  clear h1 h2 h3 h4 hB hS hP
  dsimp only [encF]
  gi_wp2
  exact hK _ _ ((KeepsOthers.alloc _ _).from _) ((Below.refl _ W).alloc b7.out.size _) ⟨⟨q0h Z1.out _, q0h Z2.out _, q0h Z3.out _⟩, q1h Z4.out (q0d (Below.refl _ _) _), q0d b7.out _, by have := HW.out; simp; omega, i2.out⟩ ⟨W.heap.size, HW.out, q1j _ _, rfl⟩
 case body =>
  rintro l b6 x a' W hl hr ⟨⟨h1, h2, h3⟩, h4, hB, hS, hP⟩ ⟨Bx, k1, bX, rfl⟩ j4
  have Z1 := am h1
  have Z2 := am h2
  have Z3 := am h3
  have Z4 := am h4
  have b7 := am hB
  have HW := am hS
  have i2 := am hP
  have HX := am bX
  have i6 := am j4
  clear h1 h2 h3 h4 hB hS hP bX hr hl j4 k1
  have j3 := List.all_eq_true.1 HG.out x (List.mem_finRange x)
  rw [Bool.and_eq_true, Bool.and_eq_true, decide_eq_true_eq] at j3
  obtain ⟨g5, g6, g7⟩ := j3
  obtain ⟨bt, j1⟩ := Option.isSome_iff_exists.1 g5
  obtain ⟨br, j0⟩ := Option.isSome_iff_exists.1 g6
  have g4 := am j1
  have d9 := am j0
  have e7 := am g7
  have HI := am x.isLt
  clear g5 g6 g7 j1 j0
  have d5 := am (fun l => (i2.out (x :: l)).trans (by rw [q3x, g4.out, Option.bind_some]))
  have p0 : (0 : Int) ≤ ((x.val : Nat) : Int) := by omega
  have p1 : ((x.val : Nat) : Int) < (xs.length : Int) := by have := HI.out; omega
  have p2 : ((x.val : Nat) : Int) < (ts.length : Int) := by have h_ := i1.out; have := HI.out; omega
  obtain ⟨ad, A0, c0, eA, a0, a1, a2, a3, i8, i7⟩ := q1q (Kd.C_below HT.out b7.out) ((x.val : Nat) : Int) p0 p2
  rw [Int.toNat_natCast] at a0 a1 a2 a3
  have h8 := am i8
  have h7 := am i7
  clear i8 i7 p2
  subst eA
  have e6 := am (fun (W' : World) (hW : Below w.heap.size w W') => show Calls Try.prog 45 #[.agg (runV ky nm (some ad) xs.length c1 (q1n xs) A2 xs.length c2), .int .i64 ((x.val : Nat) : Int)] W' (fun e w' => e = .returned (.bool br) ∧ Below W'.heap.size W' w') from ready_n ky nm (some ad) c1 ts xs.length i1.out.symm (q1n xs) A2 c2 xs ((x.val : Nat) : Int) br W' (Kd.C_below HT.out hW) (Kd.C_below HC.out hW) d9.out)
  have g0 : q0f (∀ y, y ∈ (q0c xs (x.val : Int)).f3 :: toks xs b6 ↔ y ∈ toks xs (b6 ++ [x])) := ⟨fun y => by simp only [toks, List.map_append, List.map_cons, List.map_nil, List.mem_cons, List.mem_append, List.not_mem_nil, or_false]; exact or_comm⟩
  have f9 : q0f (toks xs (b6 ++ [x]) = toks xs b6 ++ [(q0c xs (x.val : Int)).f3]) := ⟨by simp [toks]⟩
  generalize j6 : q0c xs ((x.val : Nat) : Int) = s at *
  generalize j7 : q0e ts ((x.val : Nat) : Int) = t at *
  have l2 := am j6
  have l3 := am j7
  clear j6 j7
  have x0 : W.cell? ⟨Bx, 0, none⟩ = some (.int .i64 s.f0) := bc HX.out
  have x1 : W.cell? ⟨Bx, 1, none⟩ = some (.int .i64 s.f1) := bc HX.out
  have x2 : W.cell? ⟨Bx, 2, none⟩ = some (.int .i64 s.f2) := bc HX.out
  have x3 : W.cell? ⟨Bx, 3, none⟩ = some (.int .i64 s.f3) := bc HX.out
  have x4 : W.cell? ⟨Bx, 4, none⟩ = some (.string s.f4) := bc HX.out
  have k3 : W.cell? ⟨w5.heap.size + 1, 0, none⟩ = some (.map (some w5.heap.size)) := bc Z3.out
  have l5 : W.cell? ⟨w.heap.size, 0, none⟩ = some (.string ky) := bc Z1.out
  have l6 : W.cell? ⟨w.heap.size, 1, none⟩ = some (.string nm) := bc Z1.out
  have d8 : W.cell? ⟨w.heap.size, 2, none⟩ = some (.slice (some ad) xs.length c1) := bc Z1.out
  have l7 : W.cell? ⟨w.heap.size, 3, none⟩ = some (.int .i64 (q1n xs)) := bc Z1.out
  have l8 : W.cell? ⟨w.heap.size, 4, none⟩ = some (.slice A2 xs.length c2) := bc Z1.out
  have a5 := am (fun (W' : World) (hW : Below W.heap.size W W') (a : Addr) (v : Value) (h : W.cell? a = some v) => show W'.cell? a = some v from (hW.cell (World.block_lt_of_cell? W _ h)).trans h)
  gi_wp2
  cases bt
  case false =>
   refine q1v (n := 20) (S := fun w' => w'.cell? ⟨w.heap.size, 2, none⟩ = some (.slice (some ad) xs.length c1) ∧ w'.cell? (ad.add (x.val * 4)) = some (.slice A0 t.f0.length c0) ∧ w'.cell? ⟨(ad.add (x.val * 4)).block, (ad.add (x.val * 4)).off + 1, none⟩ = some (.int .i64 t.f1) ∧ w'.cell? ⟨(ad.add (x.val * 4)).block, (ad.add (x.val * 4)).off + 2, none⟩ = some (.int .i64 t.f2) ∧ w'.cell? ⟨(ad.add (x.val * 4)).block, (ad.add (x.val * 4)).off + 3, none⟩ = some (.int .i64 t.f3) ∧ w'.cell? ⟨Bx, 0, none⟩ = some (.int .i64 s.f0) ∧ w'.cell? ⟨Bx, 1, none⟩ = some (.int .i64 s.f1) ∧ w'.cell? ⟨Bx, 2, none⟩ = some (.int .i64 s.f2) ∧ w'.cell? ⟨Bx, 3, none⟩ = some (.int .i64 s.f3) ∧ w'.cell? ⟨Bx, 4, none⟩ = some (.string s.f4) ∧ w'.cell? ⟨w5.heap.size + 1, 0, none⟩ = some (.map (some w5.heap.size))) (ds := []) (ba 20 0) (by kernel_rfl) rfl rfl ⟨(a5.out _ (q0a (Below.refl _ _)) _ _ d8), (a5.out _ (q0a (Below.refl _ _)) _ _ a0), (a5.out _ (q0a (Below.refl _ _)) _ _ a1), (a5.out _ (q0a (Below.refl _ _)) _ _ a2), (a5.out _ (q0a (Below.refl _ _)) _ _ a3), (a5.out _ (q0a (Below.refl _ _)) _ _ x0), (a5.out _ (q0a (Below.refl _ _)) _ _ x1), (a5.out _ (q0a (Below.refl _ _)) _ _ x2), (a5.out _ (q0a (Below.refl _ _)) _ _ x3), (a5.out _ (q0a (Below.refl _ _)) _ _ x4), (a5.out _ (q0a (Below.refl _ _)) _ _ k3)⟩ ?_ (by kernel_rfl) (fun a4 => ?_)
   ·
    rintro ⟨_, _, h_⟩; exact h_
   refine ph 0 39 (ba 20 1) ?_
   refine ph 1 40 (ba 20 3) ?_
   refine ph 3 42 (ba 20 11) ?_
   refine th 2 41 (ba 20 15) a4 ?_
   refine ph 4 43 (ba 20 31) ?_
   refine th 5 44 (ba 20 63) a4 ?_
   refine th 6 45 (ba 20 127) a4 ?_
   refine oh 7 46 (ba 20 255) fun K hK => ?_
   refine q2c Try.func44 (by kernel_rfl) rfl #[.agg #[.slice A0 t.f0.length c0, .int .i64 t.f1, .int .i64 t.f2, .int .i64 t.f3], .agg #[(.int .i64 s.f0), (.int .i64 s.f1), (.int .i64 s.f2), (.int .i64 s.f3), (.string s.f4)]] (by rfl) rfl rfl (by simp only [List.map_toArray, List.map_cons, List.map_nil]; rfl) ?_
   with_reducible refine (X.Fz.calls k A0 c0 t.f0 t.f1 t.f2 t.f3 s.f0 s.f1 s.f2 s.f3 s.f4 _ _ (Kd.C_below h7.out (q0a (Below.refl W.heap.size W))) h8.out (q4v g4.out)).mono ?_
   rintro e w8 ⟨rfl, hb⟩
   refine ⟨_, rfl, ?_⟩
   have a7 := am (q0j (q0a (Below.refl W.heap.size W)) hb)
   clear hb
   refine hK.out _ _ ⟨(a5.out _ (a7.out) _ _ d8), (a5.out _ (a7.out) _ _ a0), (a5.out _ (a7.out) _ _ a1), (a5.out _ (a7.out) _ _ a2), (a5.out _ (a7.out) _ _ a3), (a5.out _ (a7.out) _ _ x0), (a5.out _ (a7.out) _ _ x1), (a5.out _ (a7.out) _ _ x2), (a5.out _ (a7.out) _ _ x3), (a5.out _ (a7.out) _ _ x4), (a5.out _ (a7.out) _ _ k3)⟩ (fun a4 => ?_)
   clear hK K
   refine nh ?_
   refine ph 8 47 (ba 20 511) ?_
   refine ph 9 48 (ba 20 1023) ?_
   refine pj 10 49 (ba 20 2047) ?_
   refine pj 11 50 (ba 20 4095) ?_
   refine pj 12 51 (ba 20 8191) ?_
   refine pj 13 52 (ba 20 16383) ?_
   refine pj 14 53 (ba 20 32767) ?_
   refine pj 15 54 (ba 20 65535) ?_
   refine pj 16 55 (ba 20 131071) ?_
   refine pj 17 56 (ba 20 262143) ?_
   refine pj 18 57 (ba 20 524287) ?_
   refine ph 19 58 (ba 20 1048575) ?_
   refine q2a (by kernel_rfl) ?_
   clear a4
   have q0 : w8.cell? ⟨w.heap.size + 1, 0, none⟩ = some (.bool false) := (q0i (q0b Z2.out a7.out) 0).trans rfl
   have b8 := q0k (q0b Z2.out a7.out) 0
   gi_wp2
   exact ⟨KeepsFrom.trans ((q1b a7.out).from _) ((KeepsOthers.setCell _ _ _).from _), rfl, q0o (cs := #[.bool false]) (cs' := #[.bool false]) (q0b Z2.out a7.out) 0 _ rfl, q0n (q0j b7.out a7.out) (by show w.heap.size ≤ w.heap.size + 1; omega), fun l_ => by rw [List.append_assoc]; exact (d5.out l_).trans (by simp)⟩
  by_cases hf : 0 < s.f3 ∧ s.f3 ∈ toks xs b6
  case pos =>
   have d4 := am hf
   have E1 : decide (s.f3 > 0) = true := decide_eq_true hf.1
   have i0 : q0f ((toks xs b6).contains s.f3 = true) := ⟨List.contains_iff_mem.2 hf.2⟩
   clear hf
   refine q1v (n := 20) (S := fun w' => w'.cell? ⟨w.heap.size, 2, none⟩ = some (.slice (some ad) xs.length c1) ∧ w'.cell? (ad.add (x.val * 4)) = some (.slice A0 t.f0.length c0) ∧ w'.cell? ⟨(ad.add (x.val * 4)).block, (ad.add (x.val * 4)).off + 1, none⟩ = some (.int .i64 t.f1) ∧ w'.cell? ⟨(ad.add (x.val * 4)).block, (ad.add (x.val * 4)).off + 2, none⟩ = some (.int .i64 t.f2) ∧ w'.cell? ⟨(ad.add (x.val * 4)).block, (ad.add (x.val * 4)).off + 3, none⟩ = some (.int .i64 t.f3) ∧ w'.cell? ⟨Bx, 0, none⟩ = some (.int .i64 s.f0) ∧ w'.cell? ⟨Bx, 1, none⟩ = some (.int .i64 s.f1) ∧ w'.cell? ⟨Bx, 2, none⟩ = some (.int .i64 s.f2) ∧ w'.cell? ⟨Bx, 3, none⟩ = some (.int .i64 s.f3) ∧ w'.cell? ⟨Bx, 4, none⟩ = some (.string s.f4) ∧ w'.cell? ⟨w5.heap.size + 1, 0, none⟩ = some (.map (some w5.heap.size))) (ds := []) (ba 20 0) (by kernel_rfl) rfl rfl ⟨(a5.out _ (q0a (Below.refl _ _)) _ _ d8), (a5.out _ (q0a (Below.refl _ _)) _ _ a0), (a5.out _ (q0a (Below.refl _ _)) _ _ a1), (a5.out _ (q0a (Below.refl _ _)) _ _ a2), (a5.out _ (q0a (Below.refl _ _)) _ _ a3), (a5.out _ (q0a (Below.refl _ _)) _ _ x0), (a5.out _ (q0a (Below.refl _ _)) _ _ x1), (a5.out _ (q0a (Below.refl _ _)) _ _ x2), (a5.out _ (q0a (Below.refl _ _)) _ _ x3), (a5.out _ (q0a (Below.refl _ _)) _ _ x4), (a5.out _ (q0a (Below.refl _ _)) _ _ k3)⟩ ?_ (by kernel_rfl) (fun a4 => ?_)
   ·
    rintro ⟨_, _, h_⟩; exact h_
   refine ph 0 39 (ba 20 1) ?_
   refine ph 1 40 (ba 20 3) ?_
   refine ph 3 42 (ba 20 11) ?_
   refine th 2 41 (ba 20 15) a4 ?_
   refine ph 4 43 (ba 20 31) ?_
   refine th 5 44 (ba 20 63) a4 ?_
   refine th 6 45 (ba 20 127) a4 ?_
   refine oh 7 46 (ba 20 255) fun K hK => ?_
   refine q2c Try.func44 (by kernel_rfl) rfl #[.agg #[.slice A0 t.f0.length c0, .int .i64 t.f1, .int .i64 t.f2, .int .i64 t.f3], .agg #[(.int .i64 s.f0), (.int .i64 s.f1), (.int .i64 s.f2), (.int .i64 s.f3), (.string s.f4)]] (by rfl) rfl rfl (by simp only [List.map_toArray, List.map_cons, List.map_nil]; rfl) ?_
   with_reducible refine (X.Fz.calls k A0 c0 t.f0 t.f1 t.f2 t.f3 s.f0 s.f1 s.f2 s.f3 s.f4 _ _ (Kd.C_below h7.out (q0a (Below.refl W.heap.size W))) h8.out (q4v g4.out)).mono ?_
   rintro e w8 ⟨rfl, hb⟩
   refine ⟨_, rfl, ?_⟩
   have a7 := am (q0j (q0a (Below.refl W.heap.size W)) hb)
   clear hb
   refine hK.out _ _ ⟨(a5.out _ (a7.out) _ _ d8), (a5.out _ (a7.out) _ _ a0), (a5.out _ (a7.out) _ _ a1), (a5.out _ (a7.out) _ _ a2), (a5.out _ (a7.out) _ _ a3), (a5.out _ (a7.out) _ _ x0), (a5.out _ (a7.out) _ _ x1), (a5.out _ (a7.out) _ _ x2), (a5.out _ (a7.out) _ _ x3), (a5.out _ (a7.out) _ _ x4), (a5.out _ (a7.out) _ _ k3)⟩ (fun a4 => ?_)
   clear hK K
   refine nh ?_
   refine ph 8 47 (ba 20 511) ?_
   refine ph 9 48 (ba 20 1023) ?_
   refine ph 10 49 (ba 20 2047) ?_
   refine th 11 50 (ba 20 4095) a4 ?_
   refine ph 12 51 (ba 20 8191) ?_
   refine ph 13 52 (ba 20 16383) ?_
   refine ph 15 54 (ba 20 49151) ?_
   refine th 14 53 (ba 20 65535) a4 ?_
   refine th 16 55 (ba 20 131071) a4 ?_
   refine oh 17 56 (ba 20 262143) fun K hK => ?_
   refine look_ (by rfl) rfl (.tmp 53) (.tmp 55) rfl w5.heap.size b6.length (toks xs b6) rfl (q1h Z4.out a7.out) s.f3 rfl e7.out.1 e7.out.2 ?_
   rw [i0.out]
   refine hK.out _ _ ⟨(a5.out _ (a7.out) _ _ d8), (a5.out _ (a7.out) _ _ a0), (a5.out _ (a7.out) _ _ a1), (a5.out _ (a7.out) _ _ a2), (a5.out _ (a7.out) _ _ a3), (a5.out _ (a7.out) _ _ x0), (a5.out _ (a7.out) _ _ x1), (a5.out _ (a7.out) _ _ x2), (a5.out _ (a7.out) _ _ x3), (a5.out _ (a7.out) _ _ x4), (a5.out _ (a7.out) _ _ k3)⟩ (fun a4 => ?_)
   clear hK K
   refine nh ?_
   refine ph 18 57 (ba 20 524287) ?_
   refine ph 19 58 (ba 20 1048575) ?_
   refine q2a (by kernel_rfl) ?_
   clear a4
   have q0 : w8.cell? ⟨w.heap.size + 1, 0, none⟩ = some (.bool false) := (q0i (q0b Z2.out a7.out) 0).trans rfl
   have b8 := q0k (q0b Z2.out a7.out) 0
   gi_wp2
   exact ⟨KeepsFrom.trans ((q1b a7.out).from _) ((KeepsOthers.setCell _ _ _).from _), rfl, q0o (cs := #[.bool false]) (cs' := #[.bool false]) (q0b Z2.out a7.out) 0 _ rfl, q0n (q0j b7.out a7.out) (by show w.heap.size ≤ w.heap.size + 1; omega), fun l_ => by rw [List.append_assoc]; exact (d5.out l_).trans (by rw [if_neg (by decide), if_pos d4.out])⟩
  have d4 := am hf
  clear hf
  by_cases hp : 0 < s.f3
  case pos =>
   have E1 : decide (s.f3 > 0) = true := decide_eq_true hp
   have i0 : q0f ((toks xs b6).contains s.f3 = false) := ⟨by rw [Bool.eq_false_iff]; intro h_; exact d4.out ⟨hp, List.contains_iff_mem.1 h_⟩⟩
   clear hp
   refine q1v (n := 20) (S := fun w' => w'.cell? ⟨w.heap.size, 2, none⟩ = some (.slice (some ad) xs.length c1) ∧ w'.cell? (ad.add (x.val * 4)) = some (.slice A0 t.f0.length c0) ∧ w'.cell? ⟨(ad.add (x.val * 4)).block, (ad.add (x.val * 4)).off + 1, none⟩ = some (.int .i64 t.f1) ∧ w'.cell? ⟨(ad.add (x.val * 4)).block, (ad.add (x.val * 4)).off + 2, none⟩ = some (.int .i64 t.f2) ∧ w'.cell? ⟨(ad.add (x.val * 4)).block, (ad.add (x.val * 4)).off + 3, none⟩ = some (.int .i64 t.f3) ∧ w'.cell? ⟨Bx, 0, none⟩ = some (.int .i64 s.f0) ∧ w'.cell? ⟨Bx, 1, none⟩ = some (.int .i64 s.f1) ∧ w'.cell? ⟨Bx, 2, none⟩ = some (.int .i64 s.f2) ∧ w'.cell? ⟨Bx, 3, none⟩ = some (.int .i64 s.f3) ∧ w'.cell? ⟨Bx, 4, none⟩ = some (.string s.f4) ∧ w'.cell? ⟨w5.heap.size + 1, 0, none⟩ = some (.map (some w5.heap.size))) (ds := []) (ba 20 0) (by kernel_rfl) rfl rfl ⟨(a5.out _ (q0a (Below.refl _ _)) _ _ d8), (a5.out _ (q0a (Below.refl _ _)) _ _ a0), (a5.out _ (q0a (Below.refl _ _)) _ _ a1), (a5.out _ (q0a (Below.refl _ _)) _ _ a2), (a5.out _ (q0a (Below.refl _ _)) _ _ a3), (a5.out _ (q0a (Below.refl _ _)) _ _ x0), (a5.out _ (q0a (Below.refl _ _)) _ _ x1), (a5.out _ (q0a (Below.refl _ _)) _ _ x2), (a5.out _ (q0a (Below.refl _ _)) _ _ x3), (a5.out _ (q0a (Below.refl _ _)) _ _ x4), (a5.out _ (q0a (Below.refl _ _)) _ _ k3)⟩ ?_ (by kernel_rfl) (fun a4 => ?_)
   ·
    rintro ⟨_, _, h_⟩; exact h_
   refine ph 0 39 (ba 20 1) ?_
   refine ph 1 40 (ba 20 3) ?_
   refine ph 3 42 (ba 20 11) ?_
   refine th 2 41 (ba 20 15) a4 ?_
   refine ph 4 43 (ba 20 31) ?_
   refine th 5 44 (ba 20 63) a4 ?_
   refine th 6 45 (ba 20 127) a4 ?_
   refine oh 7 46 (ba 20 255) fun K hK => ?_
   refine q2c Try.func44 (by kernel_rfl) rfl #[.agg #[.slice A0 t.f0.length c0, .int .i64 t.f1, .int .i64 t.f2, .int .i64 t.f3], .agg #[(.int .i64 s.f0), (.int .i64 s.f1), (.int .i64 s.f2), (.int .i64 s.f3), (.string s.f4)]] (by rfl) rfl rfl (by simp only [List.map_toArray, List.map_cons, List.map_nil]; rfl) ?_
   with_reducible refine (X.Fz.calls k A0 c0 t.f0 t.f1 t.f2 t.f3 s.f0 s.f1 s.f2 s.f3 s.f4 _ _ (Kd.C_below h7.out (q0a (Below.refl W.heap.size W))) h8.out (q4v g4.out)).mono ?_
   rintro e w8 ⟨rfl, hb⟩
   refine ⟨_, rfl, ?_⟩
   have a7 := am (q0j (q0a (Below.refl W.heap.size W)) hb)
   clear hb
   refine hK.out _ _ ⟨(a5.out _ (a7.out) _ _ d8), (a5.out _ (a7.out) _ _ a0), (a5.out _ (a7.out) _ _ a1), (a5.out _ (a7.out) _ _ a2), (a5.out _ (a7.out) _ _ a3), (a5.out _ (a7.out) _ _ x0), (a5.out _ (a7.out) _ _ x1), (a5.out _ (a7.out) _ _ x2), (a5.out _ (a7.out) _ _ x3), (a5.out _ (a7.out) _ _ x4), (a5.out _ (a7.out) _ _ k3)⟩ (fun a4 => ?_)
   clear hK K
   refine nh ?_
   refine ph 8 47 (ba 20 511) ?_
   refine ph 9 48 (ba 20 1023) ?_
   refine ph 10 49 (ba 20 2047) ?_
   refine th 11 50 (ba 20 4095) a4 ?_
   refine ph 12 51 (ba 20 8191) ?_
   refine ph 13 52 (ba 20 16383) ?_
   refine ph 15 54 (ba 20 49151) ?_
   refine th 14 53 (ba 20 65535) a4 ?_
   refine th 16 55 (ba 20 131071) a4 ?_
   refine oh 17 56 (ba 20 262143) fun K hK => ?_
   refine look_ (by rfl) rfl (.tmp 53) (.tmp 55) rfl w5.heap.size b6.length (toks xs b6) rfl (q1h Z4.out a7.out) s.f3 rfl e7.out.1 e7.out.2 ?_
   rw [i0.out]
   refine hK.out _ _ ⟨(a5.out _ (a7.out) _ _ d8), (a5.out _ (a7.out) _ _ a0), (a5.out _ (a7.out) _ _ a1), (a5.out _ (a7.out) _ _ a2), (a5.out _ (a7.out) _ _ a3), (a5.out _ (a7.out) _ _ x0), (a5.out _ (a7.out) _ _ x1), (a5.out _ (a7.out) _ _ x2), (a5.out _ (a7.out) _ _ x3), (a5.out _ (a7.out) _ _ x4), (a5.out _ (a7.out) _ _ k3)⟩ (fun a4 => ?_)
   clear hK K
   refine nh ?_
   refine ph 18 57 (ba 20 524287) ?_
   refine ph 19 58 (ba 20 1048575) ?_
   refine q2a (by kernel_rfl) ?_
   have z3 : w8.cell? ⟨w5.heap.size + 1, 0, none⟩ = some (.map (some w5.heap.size)) := a5.out _ a7.out _ _ k3
   have i4 := a5.out _ a7.out _ _ x3
   clear a4
   gi_wp2_with (refine put_in _ rfl _ _ _ rfl w5.heap.size b6.length (toks xs b6) rfl (q1h Z4.out a7.out) (by have b5 := i6.out; have c6 := HL.out; omega) s.f3 rfl rfl e7.out.1 e7.out.2 ?_; intro w9 g8 c7; have M9 := am g8; have Y1 := am (q3m c7 (q1h Z4.out a7.out) (q0b Z1.out a7.out)); have Y2 := am (q3m c7 (q1h Z4.out a7.out) (q0b Z2.out a7.out)); have Y3 := am (q3m c7 (q1h Z4.out a7.out) (q0b Z3.out a7.out)); have YX := am (q3m c7 (q1h Z4.out a7.out) (q0b HX.out a7.out)); have YB := am ((q0j b7.out a7.out).grown c7 (by have b5 := b7.out.size; have c6 := a7.out.size; omega) (fun k_ e_ => by cases e_; have b5 := d3.out; omega)); have YK := am (KeepsFrom.trans ((q1b a7.out).from w7.heap.size) (KeepsFrom.of_grownBy c7 (fun j_ e_ => by cases e_; have b5 := HS.out; omega))); have YW := am (Nat.le_trans (Nat.le_trans HW.out a7.out.size) c7.size); have YP := am (show Below w.heap.size W w9 from (a7.out.mono b7.out.size).grown c7 (by have b5 := b7.out.size; have c6 := a7.out.size; omega) (fun k_ e_ => by cases e_; have b5 := d3.out; omega)); clear g8 c7 z3 i4; have v0 : w9.cell? ⟨Bx, 0, none⟩ = some (.int .i64 s.f0) := bc YX.out; have v1 : w9.cell? ⟨Bx, 1, none⟩ = some (.int .i64 s.f1) := bc YX.out; have v2 : w9.cell? ⟨Bx, 2, none⟩ = some (.int .i64 s.f2) := bc YX.out; have v3 : w9.cell? ⟨Bx, 3, none⟩ = some (.int .i64 s.f3) := bc YX.out; have v4 : w9.cell? ⟨Bx, 4, none⟩ = some (.string s.f4) := bc YX.out; have c8 : w9.cell? ⟨w.heap.size, 0, none⟩ = some (.string ky) := bc Y1.out; have c9 : w9.cell? ⟨w.heap.size, 1, none⟩ = some (.string nm) := bc Y1.out; have d0 : w9.cell? ⟨w.heap.size, 2, none⟩ = some (.slice (some ad) xs.length c1) := bc Y1.out; have d1 : w9.cell? ⟨w.heap.size, 3, none⟩ = some (.int .i64 (q1n xs)) := bc Y1.out; have d2 : w9.cell? ⟨w.heap.size, 4, none⟩ = some (.slice A2 xs.length c2) := bc Y1.out)
   have a8 := am (fun (W' : World) (hW : Below w9.heap.size w9 W') (a : Addr) (v : Value) (h : w9.cell? a = some v) => show W'.cell? a = some v from (hW.cell (World.block_lt_of_cell? w9 _ h)).trans h)
   by_cases h5 : s.f0 = 5
   case pos =>
    have H5 := am h5
    have E5 : (s.f0 != 5) = false := by rw [h5]; rfl
    clear h5
    refine q1v (n := 12) (S := fun w' => w'.cell? ⟨Bx, 0, none⟩ = some (.int .i64 s.f0) ∧ w'.cell? ⟨w.heap.size, 0, none⟩ = some (.string ky) ∧ w'.cell? ⟨w.heap.size, 1, none⟩ = some (.string nm) ∧ w'.cell? ⟨w.heap.size, 2, none⟩ = some (.slice (some ad) xs.length c1) ∧ w'.cell? ⟨w.heap.size, 3, none⟩ = some (.int .i64 (q1n xs)) ∧ w'.cell? ⟨w.heap.size, 4, none⟩ = some (.slice A2 xs.length c2)) (ds := []) (ba 12 0) (by kernel_rfl) rfl rfl ⟨(a8.out _ (q0a (Below.refl _ _)) _ _ v0), (a8.out _ (q0a (Below.refl _ _)) _ _ c8), (a8.out _ (q0a (Below.refl _ _)) _ _ c9), (a8.out _ (q0a (Below.refl _ _)) _ _ d0), (a8.out _ (q0a (Below.refl _ _)) _ _ d1), (a8.out _ (q0a (Below.refl _ _)) _ _ d2)⟩ ?_ (by kernel_rfl) (fun a4 => ?_)
    ·
     rintro ⟨_, _, h_⟩; exact h_
    refine ph 0 62 (ba 12 1) ?_
    refine th 1 63 (ba 12 3) a4 ?_
    refine ph 2 64 (ba 12 7) ?_
    refine ph 3 65 (ba 12 15) ?_
    refine pj 4 66 (ba 12 31) ?_
    refine pj 5 67 (ba 12 63) ?_
    refine pj 6 68 (ba 12 127) ?_
    refine pj 7 69 (ba 12 255) ?_
    refine pj 8 70 (ba 12 511) ?_
    refine pj 9 71 (ba 12 1023) ?_
    refine pj 10 72 (ba 12 2047) ?_
    refine ph 11 73 (ba 12 4095) ?_
    refine q2a (by kernel_rfl) ?_
    gi_wp2
    exact ⟨KeepsFrom.trans YK.out ((q1b (q0a (Below.refl w9.heap.size w9))).from _), YP.out.trans ((q0a (Below.refl w9.heap.size w9)).mono (Nat.le_trans b7.out.size YP.out.size)), ⟨⟨q0b Y1.out (q0a (Below.refl w9.heap.size w9)), q0b Y2.out (q0a (Below.refl w9.heap.size w9)), q0b Y3.out (q0a (Below.refl w9.heap.size w9))⟩, (by rw [List.length_append, f9.out]; exact q1h M9.out (q0a (Below.refl w9.heap.size w9))), q0j YB.out (q0a (Below.refl w9.heap.size w9)), Nat.le_trans YW.out (q0a (Below.refl w9.heap.size w9)).size, fun l_ => by rw [List.append_assoc]; refine (d5.out l_).trans ?_; rw [if_neg (by decide), if_neg d4.out, if_pos H5.out]; exact q3j k ts xs l_ _ _ g0.out⟩⟩
   have H5 := am h5
   have E5 : (s.f0 != 5) = true := bne_iff_ne.2 h5
   clear h5
   obtain ⟨bz, hbz⟩ : ∃ bz, (s.f0 == 0) = bz := ⟨_, rfl⟩
   have e5 : q0f (decide (s.f0 = 0) = bz) := ⟨by rw [← hbz]; rfl⟩
   cases bz <;> cases br
   case false.false =>
    refine q1v (n := 12) (S := fun w' => w'.cell? ⟨Bx, 0, none⟩ = some (.int .i64 s.f0) ∧ w'.cell? ⟨w.heap.size, 0, none⟩ = some (.string ky) ∧ w'.cell? ⟨w.heap.size, 1, none⟩ = some (.string nm) ∧ w'.cell? ⟨w.heap.size, 2, none⟩ = some (.slice (some ad) xs.length c1) ∧ w'.cell? ⟨w.heap.size, 3, none⟩ = some (.int .i64 (q1n xs)) ∧ w'.cell? ⟨w.heap.size, 4, none⟩ = some (.slice A2 xs.length c2)) (ds := []) (ba 12 0) (by kernel_rfl) rfl rfl ⟨(a8.out _ (q0a (Below.refl _ _)) _ _ v0), (a8.out _ (q0a (Below.refl _ _)) _ _ c8), (a8.out _ (q0a (Below.refl _ _)) _ _ c9), (a8.out _ (q0a (Below.refl _ _)) _ _ d0), (a8.out _ (q0a (Below.refl _ _)) _ _ d1), (a8.out _ (q0a (Below.refl _ _)) _ _ d2)⟩ ?_ (by kernel_rfl) (fun a4 => ?_)
    ·
     rintro ⟨_, _, h_⟩; exact h_
    refine ph 0 62 (ba 12 1) ?_
    refine th 1 63 (ba 12 3) a4 ?_
    refine ph 2 64 (ba 12 7) ?_
    refine ph 3 65 (ba 12 15) ?_
    refine ph 4 66 (ba 12 31) ?_
    refine ph 8 70 (ba 12 287) ?_
    refine th 5 67 (ba 12 319) a4 ?_
    refine ph 6 68 (ba 12 383) ?_
    refine th 7 69 (ba 12 511) a4 ?_
    refine oh 9 71 (ba 12 1023) fun K hK => ?_
    refine q2c Try.func45 (by kernel_rfl) rfl #[.agg (runV ky nm (some ad) xs.length c1 (q1n xs) A2 xs.length c2), .int .i64 ((x.val : Nat) : Int)] (by rfl) rfl rfl (by simp only [List.map_toArray, List.map_cons, List.map_nil]; rfl) ?_
    with_reducible refine (e6.out _ (q0a YB.out)).mono ?_
    rintro e d6 ⟨rfl, hb⟩
    refine ⟨_, rfl, ?_⟩
    have a6 := am (q0j (q0a (Below.refl w9.heap.size w9)) hb)
    clear hb
    refine hK.out _ _ ⟨(a8.out _ (a6.out) _ _ v0), (a8.out _ (a6.out) _ _ c8), (a8.out _ (a6.out) _ _ c9), (a8.out _ (a6.out) _ _ d0), (a8.out _ (a6.out) _ _ d1), (a8.out _ (a6.out) _ _ d2)⟩ (fun a4 => ?_)
    clear hK K
    refine nh ?_
    refine ph 10 72 (ba 12 2047) ?_
    refine ph 11 73 (ba 12 4095) ?_
    refine q2a (by kernel_rfl) ?_
    clear a4
    have q0 : d6.cell? ⟨w.heap.size + 1, 0, none⟩ = some (.bool false) := (q0i (q0b Y2.out a6.out) 0).trans rfl
    have b8 := q0k (q0b Y2.out a6.out) 0
    gi_wp2
    exact ⟨KeepsFrom.trans (KeepsFrom.trans YK.out ((q1b a6.out).from _)) ((KeepsOthers.setCell _ _ _).from _), rfl, q0o (cs := #[.bool false]) (cs' := #[.bool false]) (q0b Y2.out a6.out) 0 _ rfl, q0n (q0j YB.out a6.out) (by show w.heap.size ≤ w.heap.size + 1; omega), fun l_ => by rw [List.append_assoc]; refine (d5.out l_).trans ?_; rw [if_neg (by decide), if_neg d4.out, if_neg H5.out, d9.out, Option.bind_some, if_pos e5.out]⟩
   case false.true =>
    refine q1v (n := 12) (S := fun w' => w'.cell? ⟨Bx, 0, none⟩ = some (.int .i64 s.f0) ∧ w'.cell? ⟨w.heap.size, 0, none⟩ = some (.string ky) ∧ w'.cell? ⟨w.heap.size, 1, none⟩ = some (.string nm) ∧ w'.cell? ⟨w.heap.size, 2, none⟩ = some (.slice (some ad) xs.length c1) ∧ w'.cell? ⟨w.heap.size, 3, none⟩ = some (.int .i64 (q1n xs)) ∧ w'.cell? ⟨w.heap.size, 4, none⟩ = some (.slice A2 xs.length c2)) (ds := []) (ba 12 0) (by kernel_rfl) rfl rfl ⟨(a8.out _ (q0a (Below.refl _ _)) _ _ v0), (a8.out _ (q0a (Below.refl _ _)) _ _ c8), (a8.out _ (q0a (Below.refl _ _)) _ _ c9), (a8.out _ (q0a (Below.refl _ _)) _ _ d0), (a8.out _ (q0a (Below.refl _ _)) _ _ d1), (a8.out _ (q0a (Below.refl _ _)) _ _ d2)⟩ ?_ (by kernel_rfl) (fun a4 => ?_)
    ·
     rintro ⟨_, _, h_⟩; exact h_
    refine ph 0 62 (ba 12 1) ?_
    refine th 1 63 (ba 12 3) a4 ?_
    refine ph 2 64 (ba 12 7) ?_
    refine ph 3 65 (ba 12 15) ?_
    refine ph 4 66 (ba 12 31) ?_
    refine ph 8 70 (ba 12 287) ?_
    refine th 5 67 (ba 12 319) a4 ?_
    refine ph 6 68 (ba 12 383) ?_
    refine th 7 69 (ba 12 511) a4 ?_
    refine oh 9 71 (ba 12 1023) fun K hK => ?_
    refine q2c Try.func45 (by kernel_rfl) rfl #[.agg (runV ky nm (some ad) xs.length c1 (q1n xs) A2 xs.length c2), .int .i64 ((x.val : Nat) : Int)] (by rfl) rfl rfl (by simp only [List.map_toArray, List.map_cons, List.map_nil]; rfl) ?_
    with_reducible refine (e6.out _ (q0a YB.out)).mono ?_
    rintro e d6 ⟨rfl, hb⟩
    refine ⟨_, rfl, ?_⟩
    have a6 := am (q0j (q0a (Below.refl w9.heap.size w9)) hb)
    clear hb
    refine hK.out _ _ ⟨(a8.out _ (a6.out) _ _ v0), (a8.out _ (a6.out) _ _ c8), (a8.out _ (a6.out) _ _ c9), (a8.out _ (a6.out) _ _ d0), (a8.out _ (a6.out) _ _ d1), (a8.out _ (a6.out) _ _ d2)⟩ (fun a4 => ?_)
    clear hK K
    refine nh ?_
    refine ph 10 72 (ba 12 2047) ?_
    refine ph 11 73 (ba 12 4095) ?_
    refine q2a (by kernel_rfl) ?_
    gi_wp2
    exact ⟨KeepsFrom.trans YK.out ((q1b a6.out).from _), YP.out.trans (a6.out.mono (Nat.le_trans b7.out.size YP.out.size)), ⟨⟨q0b Y1.out a6.out, q0b Y2.out a6.out, q0b Y3.out a6.out⟩, (by rw [List.length_append, f9.out]; exact q1h M9.out a6.out), q0j YB.out a6.out, Nat.le_trans YW.out a6.out.size, fun l_ => by rw [List.append_assoc]; refine (d5.out l_).trans ?_; rw [if_neg (by decide), if_neg d4.out, if_neg H5.out, d9.out, Option.bind_some, if_neg (by rw [e5.out]; decide)]; exact q3j k ts xs l_ _ _ g0.out⟩⟩
   case true.false =>
    refine q1v (n := 12) (S := fun w' => w'.cell? ⟨Bx, 0, none⟩ = some (.int .i64 s.f0) ∧ w'.cell? ⟨w.heap.size, 0, none⟩ = some (.string ky) ∧ w'.cell? ⟨w.heap.size, 1, none⟩ = some (.string nm) ∧ w'.cell? ⟨w.heap.size, 2, none⟩ = some (.slice (some ad) xs.length c1) ∧ w'.cell? ⟨w.heap.size, 3, none⟩ = some (.int .i64 (q1n xs)) ∧ w'.cell? ⟨w.heap.size, 4, none⟩ = some (.slice A2 xs.length c2)) (ds := []) (ba 12 0) (by kernel_rfl) rfl rfl ⟨(a8.out _ (q0a (Below.refl _ _)) _ _ v0), (a8.out _ (q0a (Below.refl _ _)) _ _ c8), (a8.out _ (q0a (Below.refl _ _)) _ _ c9), (a8.out _ (q0a (Below.refl _ _)) _ _ d0), (a8.out _ (q0a (Below.refl _ _)) _ _ d1), (a8.out _ (q0a (Below.refl _ _)) _ _ d2)⟩ ?_ (by kernel_rfl) (fun a4 => ?_)
    ·
     rintro ⟨_, _, h_⟩; exact h_
    refine ph 0 62 (ba 12 1) ?_
    refine th 1 63 (ba 12 3) a4 ?_
    refine ph 2 64 (ba 12 7) ?_
    refine ph 3 65 (ba 12 15) ?_
    refine ph 4 66 (ba 12 31) ?_
    refine ph 8 70 (ba 12 287) ?_
    refine th 5 67 (ba 12 319) a4 ?_
    refine ph 6 68 (ba 12 383) ?_
    refine th 7 69 (ba 12 511) a4 ?_
    refine oh 9 71 (ba 12 1023) fun K hK => ?_
    refine q2c Try.func45 (by kernel_rfl) rfl #[.agg (runV ky nm (some ad) xs.length c1 (q1n xs) A2 xs.length c2), .int .i64 ((x.val : Nat) : Int)] (by rfl) rfl rfl (by simp only [List.map_toArray, List.map_cons, List.map_nil]; rfl) ?_
    with_reducible refine (e6.out _ (q0a YB.out)).mono ?_
    rintro e d6 ⟨rfl, hb⟩
    refine ⟨_, rfl, ?_⟩
    have a6 := am (q0j (q0a (Below.refl w9.heap.size w9)) hb)
    clear hb
    refine hK.out _ _ ⟨(a8.out _ (a6.out) _ _ v0), (a8.out _ (a6.out) _ _ c8), (a8.out _ (a6.out) _ _ c9), (a8.out _ (a6.out) _ _ d0), (a8.out _ (a6.out) _ _ d1), (a8.out _ (a6.out) _ _ d2)⟩ (fun a4 => ?_)
    clear hK K
    refine nh ?_
    refine ph 10 72 (ba 12 2047) ?_
    refine ph 11 73 (ba 12 4095) ?_
    refine q2a (by kernel_rfl) ?_
    gi_wp2
    exact ⟨KeepsFrom.trans YK.out ((q1b a6.out).from _), YP.out.trans (a6.out.mono (Nat.le_trans b7.out.size YP.out.size)), ⟨⟨q0b Y1.out a6.out, q0b Y2.out a6.out, q0b Y3.out a6.out⟩, (by rw [List.length_append, f9.out]; exact q1h M9.out a6.out), q0j YB.out a6.out, Nat.le_trans YW.out a6.out.size, fun l_ => by rw [List.append_assoc]; refine (d5.out l_).trans ?_; rw [if_neg (by decide), if_neg d4.out, if_neg H5.out, d9.out, Option.bind_some, if_neg (by rw [e5.out]; decide)]; exact q3j k ts xs l_ _ _ g0.out⟩⟩
   case true.true =>
    refine q1v (n := 12) (S := fun w' => w'.cell? ⟨Bx, 0, none⟩ = some (.int .i64 s.f0) ∧ w'.cell? ⟨w.heap.size, 0, none⟩ = some (.string ky) ∧ w'.cell? ⟨w.heap.size, 1, none⟩ = some (.string nm) ∧ w'.cell? ⟨w.heap.size, 2, none⟩ = some (.slice (some ad) xs.length c1) ∧ w'.cell? ⟨w.heap.size, 3, none⟩ = some (.int .i64 (q1n xs)) ∧ w'.cell? ⟨w.heap.size, 4, none⟩ = some (.slice A2 xs.length c2)) (ds := []) (ba 12 0) (by kernel_rfl) rfl rfl ⟨(a8.out _ (q0a (Below.refl _ _)) _ _ v0), (a8.out _ (q0a (Below.refl _ _)) _ _ c8), (a8.out _ (q0a (Below.refl _ _)) _ _ c9), (a8.out _ (q0a (Below.refl _ _)) _ _ d0), (a8.out _ (q0a (Below.refl _ _)) _ _ d1), (a8.out _ (q0a (Below.refl _ _)) _ _ d2)⟩ ?_ (by kernel_rfl) (fun a4 => ?_)
    ·
     rintro ⟨_, _, h_⟩; exact h_
    refine ph 0 62 (ba 12 1) ?_
    refine th 1 63 (ba 12 3) a4 ?_
    refine ph 2 64 (ba 12 7) ?_
    refine ph 3 65 (ba 12 15) ?_
    refine ph 4 66 (ba 12 31) ?_
    refine ph 8 70 (ba 12 287) ?_
    refine th 5 67 (ba 12 319) a4 ?_
    refine ph 6 68 (ba 12 383) ?_
    refine th 7 69 (ba 12 511) a4 ?_
    refine oh 9 71 (ba 12 1023) fun K hK => ?_
    refine q2c Try.func45 (by kernel_rfl) rfl #[.agg (runV ky nm (some ad) xs.length c1 (q1n xs) A2 xs.length c2), .int .i64 ((x.val : Nat) : Int)] (by rfl) rfl rfl (by simp only [List.map_toArray, List.map_cons, List.map_nil]; rfl) ?_
    with_reducible refine (e6.out _ (q0a YB.out)).mono ?_
    rintro e d6 ⟨rfl, hb⟩
    refine ⟨_, rfl, ?_⟩
    have a6 := am (q0j (q0a (Below.refl w9.heap.size w9)) hb)
    clear hb
    refine hK.out _ _ ⟨(a8.out _ (a6.out) _ _ v0), (a8.out _ (a6.out) _ _ c8), (a8.out _ (a6.out) _ _ c9), (a8.out _ (a6.out) _ _ d0), (a8.out _ (a6.out) _ _ d1), (a8.out _ (a6.out) _ _ d2)⟩ (fun a4 => ?_)
    clear hK K
    refine nh ?_
    refine ph 10 72 (ba 12 2047) ?_
    refine ph 11 73 (ba 12 4095) ?_
    refine q2a (by kernel_rfl) ?_
    clear a4
    have q0 : d6.cell? ⟨w.heap.size + 1, 0, none⟩ = some (.bool false) := (q0i (q0b Y2.out a6.out) 0).trans rfl
    have b8 := q0k (q0b Y2.out a6.out) 0
    gi_wp2
    exact ⟨KeepsFrom.trans (KeepsFrom.trans YK.out ((q1b a6.out).from _)) ((KeepsOthers.setCell _ _ _).from _), rfl, q0o (cs := #[.bool false]) (cs' := #[.bool false]) (q0b Y2.out a6.out) 0 _ rfl, q0n (q0j YB.out a6.out) (by show w.heap.size ≤ w.heap.size + 1; omega), fun l_ => by rw [List.append_assoc]; refine (d5.out l_).trans ?_; rw [if_neg (by decide), if_neg d4.out, if_neg H5.out, d9.out, Option.bind_some, if_pos e5.out]⟩
  have E1 : decide (s.f3 > 0) = false := decide_eq_false hp
  clear hp
  refine q1v (n := 20) (S := fun w' => w'.cell? ⟨w.heap.size, 2, none⟩ = some (.slice (some ad) xs.length c1) ∧ w'.cell? (ad.add (x.val * 4)) = some (.slice A0 t.f0.length c0) ∧ w'.cell? ⟨(ad.add (x.val * 4)).block, (ad.add (x.val * 4)).off + 1, none⟩ = some (.int .i64 t.f1) ∧ w'.cell? ⟨(ad.add (x.val * 4)).block, (ad.add (x.val * 4)).off + 2, none⟩ = some (.int .i64 t.f2) ∧ w'.cell? ⟨(ad.add (x.val * 4)).block, (ad.add (x.val * 4)).off + 3, none⟩ = some (.int .i64 t.f3) ∧ w'.cell? ⟨Bx, 0, none⟩ = some (.int .i64 s.f0) ∧ w'.cell? ⟨Bx, 1, none⟩ = some (.int .i64 s.f1) ∧ w'.cell? ⟨Bx, 2, none⟩ = some (.int .i64 s.f2) ∧ w'.cell? ⟨Bx, 3, none⟩ = some (.int .i64 s.f3) ∧ w'.cell? ⟨Bx, 4, none⟩ = some (.string s.f4) ∧ w'.cell? ⟨w5.heap.size + 1, 0, none⟩ = some (.map (some w5.heap.size))) (ds := []) (ba 20 0) (by kernel_rfl) rfl rfl ⟨(a5.out _ (q0a (Below.refl _ _)) _ _ d8), (a5.out _ (q0a (Below.refl _ _)) _ _ a0), (a5.out _ (q0a (Below.refl _ _)) _ _ a1), (a5.out _ (q0a (Below.refl _ _)) _ _ a2), (a5.out _ (q0a (Below.refl _ _)) _ _ a3), (a5.out _ (q0a (Below.refl _ _)) _ _ x0), (a5.out _ (q0a (Below.refl _ _)) _ _ x1), (a5.out _ (q0a (Below.refl _ _)) _ _ x2), (a5.out _ (q0a (Below.refl _ _)) _ _ x3), (a5.out _ (q0a (Below.refl _ _)) _ _ x4), (a5.out _ (q0a (Below.refl _ _)) _ _ k3)⟩ ?_ (by kernel_rfl) (fun a4 => ?_)
  ·
   rintro ⟨_, _, h_⟩; exact h_
  refine ph 0 39 (ba 20 1) ?_
  refine ph 1 40 (ba 20 3) ?_
  refine ph 3 42 (ba 20 11) ?_
  refine th 2 41 (ba 20 15) a4 ?_
  refine ph 4 43 (ba 20 31) ?_
  refine th 5 44 (ba 20 63) a4 ?_
  refine th 6 45 (ba 20 127) a4 ?_
  refine oh 7 46 (ba 20 255) fun K hK => ?_
  refine q2c Try.func44 (by kernel_rfl) rfl #[.agg #[.slice A0 t.f0.length c0, .int .i64 t.f1, .int .i64 t.f2, .int .i64 t.f3], .agg #[(.int .i64 s.f0), (.int .i64 s.f1), (.int .i64 s.f2), (.int .i64 s.f3), (.string s.f4)]] (by rfl) rfl rfl (by simp only [List.map_toArray, List.map_cons, List.map_nil]; rfl) ?_
  with_reducible refine (X.Fz.calls k A0 c0 t.f0 t.f1 t.f2 t.f3 s.f0 s.f1 s.f2 s.f3 s.f4 _ _ (Kd.C_below h7.out (q0a (Below.refl W.heap.size W))) h8.out (q4v g4.out)).mono ?_
  rintro e w8 ⟨rfl, hb⟩
  refine ⟨_, rfl, ?_⟩
  have a7 := am (q0j (q0a (Below.refl W.heap.size W)) hb)
  clear hb
  refine hK.out _ _ ⟨(a5.out _ (a7.out) _ _ d8), (a5.out _ (a7.out) _ _ a0), (a5.out _ (a7.out) _ _ a1), (a5.out _ (a7.out) _ _ a2), (a5.out _ (a7.out) _ _ a3), (a5.out _ (a7.out) _ _ x0), (a5.out _ (a7.out) _ _ x1), (a5.out _ (a7.out) _ _ x2), (a5.out _ (a7.out) _ _ x3), (a5.out _ (a7.out) _ _ x4), (a5.out _ (a7.out) _ _ k3)⟩ (fun a4 => ?_)
  clear hK K
  refine nh ?_
  refine ph 8 47 (ba 20 511) ?_
  refine ph 9 48 (ba 20 1023) ?_
  refine ph 10 49 (ba 20 2047) ?_
  refine th 11 50 (ba 20 4095) a4 ?_
  refine ph 12 51 (ba 20 8191) ?_
  refine ph 13 52 (ba 20 16383) ?_
  refine pj 14 53 (ba 20 32767) ?_
  refine pj 15 54 (ba 20 65535) ?_
  refine pj 16 55 (ba 20 131071) ?_
  refine pj 17 56 (ba 20 262143) ?_
  refine ph 18 57 (ba 20 524287) ?_
  refine ph 19 58 (ba 20 1048575) ?_
  refine q2a (by kernel_rfl) ?_
  have z3 : w8.cell? ⟨w5.heap.size + 1, 0, none⟩ = some (.map (some w5.heap.size)) := a5.out _ a7.out _ _ k3
  have i4 := a5.out _ a7.out _ _ x3
  clear a4
  gi_wp2_with (refine put_in _ rfl _ _ _ rfl w5.heap.size b6.length (toks xs b6) rfl (q1h Z4.out a7.out) (by have b5 := i6.out; have c6 := HL.out; omega) s.f3 rfl rfl e7.out.1 e7.out.2 ?_; intro w9 g8 c7; have M9 := am g8; have Y1 := am (q3m c7 (q1h Z4.out a7.out) (q0b Z1.out a7.out)); have Y2 := am (q3m c7 (q1h Z4.out a7.out) (q0b Z2.out a7.out)); have Y3 := am (q3m c7 (q1h Z4.out a7.out) (q0b Z3.out a7.out)); have YX := am (q3m c7 (q1h Z4.out a7.out) (q0b HX.out a7.out)); have YB := am ((q0j b7.out a7.out).grown c7 (by have b5 := b7.out.size; have c6 := a7.out.size; omega) (fun k_ e_ => by cases e_; have b5 := d3.out; omega)); have YK := am (KeepsFrom.trans ((q1b a7.out).from w7.heap.size) (KeepsFrom.of_grownBy c7 (fun j_ e_ => by cases e_; have b5 := HS.out; omega))); have YW := am (Nat.le_trans (Nat.le_trans HW.out a7.out.size) c7.size); have YP := am (show Below w.heap.size W w9 from (a7.out.mono b7.out.size).grown c7 (by have b5 := b7.out.size; have c6 := a7.out.size; omega) (fun k_ e_ => by cases e_; have b5 := d3.out; omega)); clear g8 c7 z3 i4; have v0 : w9.cell? ⟨Bx, 0, none⟩ = some (.int .i64 s.f0) := bc YX.out; have v1 : w9.cell? ⟨Bx, 1, none⟩ = some (.int .i64 s.f1) := bc YX.out; have v2 : w9.cell? ⟨Bx, 2, none⟩ = some (.int .i64 s.f2) := bc YX.out; have v3 : w9.cell? ⟨Bx, 3, none⟩ = some (.int .i64 s.f3) := bc YX.out; have v4 : w9.cell? ⟨Bx, 4, none⟩ = some (.string s.f4) := bc YX.out; have c8 : w9.cell? ⟨w.heap.size, 0, none⟩ = some (.string ky) := bc Y1.out; have c9 : w9.cell? ⟨w.heap.size, 1, none⟩ = some (.string nm) := bc Y1.out; have d0 : w9.cell? ⟨w.heap.size, 2, none⟩ = some (.slice (some ad) xs.length c1) := bc Y1.out; have d1 : w9.cell? ⟨w.heap.size, 3, none⟩ = some (.int .i64 (q1n xs)) := bc Y1.out; have d2 : w9.cell? ⟨w.heap.size, 4, none⟩ = some (.slice A2 xs.length c2) := bc Y1.out)
  have a8 := am (fun (W' : World) (hW : Below w9.heap.size w9 W') (a : Addr) (v : Value) (h : w9.cell? a = some v) => show W'.cell? a = some v from (hW.cell (World.block_lt_of_cell? w9 _ h)).trans h)
  by_cases h5 : s.f0 = 5
  case pos =>
   have H5 := am h5
   have E5 : (s.f0 != 5) = false := by rw [h5]; rfl
   clear h5
   refine q1v (n := 12) (S := fun w' => w'.cell? ⟨Bx, 0, none⟩ = some (.int .i64 s.f0) ∧ w'.cell? ⟨w.heap.size, 0, none⟩ = some (.string ky) ∧ w'.cell? ⟨w.heap.size, 1, none⟩ = some (.string nm) ∧ w'.cell? ⟨w.heap.size, 2, none⟩ = some (.slice (some ad) xs.length c1) ∧ w'.cell? ⟨w.heap.size, 3, none⟩ = some (.int .i64 (q1n xs)) ∧ w'.cell? ⟨w.heap.size, 4, none⟩ = some (.slice A2 xs.length c2)) (ds := []) (ba 12 0) (by kernel_rfl) rfl rfl ⟨(a8.out _ (q0a (Below.refl _ _)) _ _ v0), (a8.out _ (q0a (Below.refl _ _)) _ _ c8), (a8.out _ (q0a (Below.refl _ _)) _ _ c9), (a8.out _ (q0a (Below.refl _ _)) _ _ d0), (a8.out _ (q0a (Below.refl _ _)) _ _ d1), (a8.out _ (q0a (Below.refl _ _)) _ _ d2)⟩ ?_ (by kernel_rfl) (fun a4 => ?_)
   ·
    rintro ⟨_, _, h_⟩; exact h_
   refine ph 0 62 (ba 12 1) ?_
   refine th 1 63 (ba 12 3) a4 ?_
   refine ph 2 64 (ba 12 7) ?_
   refine ph 3 65 (ba 12 15) ?_
   refine pj 4 66 (ba 12 31) ?_
   refine pj 5 67 (ba 12 63) ?_
   refine pj 6 68 (ba 12 127) ?_
   refine pj 7 69 (ba 12 255) ?_
   refine pj 8 70 (ba 12 511) ?_
   refine pj 9 71 (ba 12 1023) ?_
   refine pj 10 72 (ba 12 2047) ?_
   refine ph 11 73 (ba 12 4095) ?_
   refine q2a (by kernel_rfl) ?_
   gi_wp2
   exact ⟨KeepsFrom.trans YK.out ((q1b (q0a (Below.refl w9.heap.size w9))).from _), YP.out.trans ((q0a (Below.refl w9.heap.size w9)).mono (Nat.le_trans b7.out.size YP.out.size)), ⟨⟨q0b Y1.out (q0a (Below.refl w9.heap.size w9)), q0b Y2.out (q0a (Below.refl w9.heap.size w9)), q0b Y3.out (q0a (Below.refl w9.heap.size w9))⟩, (by rw [List.length_append, f9.out]; exact q1h M9.out (q0a (Below.refl w9.heap.size w9))), q0j YB.out (q0a (Below.refl w9.heap.size w9)), Nat.le_trans YW.out (q0a (Below.refl w9.heap.size w9)).size, fun l_ => by rw [List.append_assoc]; refine (d5.out l_).trans ?_; rw [if_neg (by decide), if_neg d4.out, if_pos H5.out]; exact q3j k ts xs l_ _ _ g0.out⟩⟩
  have H5 := am h5
  have E5 : (s.f0 != 5) = true := bne_iff_ne.2 h5
  clear h5
  obtain ⟨bz, hbz⟩ : ∃ bz, (s.f0 == 0) = bz := ⟨_, rfl⟩
  have e5 : q0f (decide (s.f0 = 0) = bz) := ⟨by rw [← hbz]; rfl⟩
  cases bz <;> cases br
  case false.false =>
   refine q1v (n := 12) (S := fun w' => w'.cell? ⟨Bx, 0, none⟩ = some (.int .i64 s.f0) ∧ w'.cell? ⟨w.heap.size, 0, none⟩ = some (.string ky) ∧ w'.cell? ⟨w.heap.size, 1, none⟩ = some (.string nm) ∧ w'.cell? ⟨w.heap.size, 2, none⟩ = some (.slice (some ad) xs.length c1) ∧ w'.cell? ⟨w.heap.size, 3, none⟩ = some (.int .i64 (q1n xs)) ∧ w'.cell? ⟨w.heap.size, 4, none⟩ = some (.slice A2 xs.length c2)) (ds := []) (ba 12 0) (by kernel_rfl) rfl rfl ⟨(a8.out _ (q0a (Below.refl _ _)) _ _ v0), (a8.out _ (q0a (Below.refl _ _)) _ _ c8), (a8.out _ (q0a (Below.refl _ _)) _ _ c9), (a8.out _ (q0a (Below.refl _ _)) _ _ d0), (a8.out _ (q0a (Below.refl _ _)) _ _ d1), (a8.out _ (q0a (Below.refl _ _)) _ _ d2)⟩ ?_ (by kernel_rfl) (fun a4 => ?_)
   ·
    rintro ⟨_, _, h_⟩; exact h_
   refine ph 0 62 (ba 12 1) ?_
   refine th 1 63 (ba 12 3) a4 ?_
   refine ph 2 64 (ba 12 7) ?_
   refine ph 3 65 (ba 12 15) ?_
   refine ph 4 66 (ba 12 31) ?_
   refine ph 8 70 (ba 12 287) ?_
   refine th 5 67 (ba 12 319) a4 ?_
   refine ph 6 68 (ba 12 383) ?_
   refine th 7 69 (ba 12 511) a4 ?_
   refine oh 9 71 (ba 12 1023) fun K hK => ?_
   refine q2c Try.func45 (by kernel_rfl) rfl #[.agg (runV ky nm (some ad) xs.length c1 (q1n xs) A2 xs.length c2), .int .i64 ((x.val : Nat) : Int)] (by rfl) rfl rfl (by simp only [List.map_toArray, List.map_cons, List.map_nil]; rfl) ?_
   with_reducible refine (e6.out _ (q0a YB.out)).mono ?_
   rintro e d6 ⟨rfl, hb⟩
   refine ⟨_, rfl, ?_⟩
   have a6 := am (q0j (q0a (Below.refl w9.heap.size w9)) hb)
   clear hb
   refine hK.out _ _ ⟨(a8.out _ (a6.out) _ _ v0), (a8.out _ (a6.out) _ _ c8), (a8.out _ (a6.out) _ _ c9), (a8.out _ (a6.out) _ _ d0), (a8.out _ (a6.out) _ _ d1), (a8.out _ (a6.out) _ _ d2)⟩ (fun a4 => ?_)
   clear hK K
   refine nh ?_
   refine ph 10 72 (ba 12 2047) ?_
   refine ph 11 73 (ba 12 4095) ?_
   refine q2a (by kernel_rfl) ?_
   clear a4
   have q0 : d6.cell? ⟨w.heap.size + 1, 0, none⟩ = some (.bool false) := (q0i (q0b Y2.out a6.out) 0).trans rfl
   have b8 := q0k (q0b Y2.out a6.out) 0
   gi_wp2
   exact ⟨KeepsFrom.trans (KeepsFrom.trans YK.out ((q1b a6.out).from _)) ((KeepsOthers.setCell _ _ _).from _), rfl, q0o (cs := #[.bool false]) (cs' := #[.bool false]) (q0b Y2.out a6.out) 0 _ rfl, q0n (q0j YB.out a6.out) (by show w.heap.size ≤ w.heap.size + 1; omega), fun l_ => by rw [List.append_assoc]; refine (d5.out l_).trans ?_; rw [if_neg (by decide), if_neg d4.out, if_neg H5.out, d9.out, Option.bind_some, if_pos e5.out]⟩
  case false.true =>
   refine q1v (n := 12) (S := fun w' => w'.cell? ⟨Bx, 0, none⟩ = some (.int .i64 s.f0) ∧ w'.cell? ⟨w.heap.size, 0, none⟩ = some (.string ky) ∧ w'.cell? ⟨w.heap.size, 1, none⟩ = some (.string nm) ∧ w'.cell? ⟨w.heap.size, 2, none⟩ = some (.slice (some ad) xs.length c1) ∧ w'.cell? ⟨w.heap.size, 3, none⟩ = some (.int .i64 (q1n xs)) ∧ w'.cell? ⟨w.heap.size, 4, none⟩ = some (.slice A2 xs.length c2)) (ds := []) (ba 12 0) (by kernel_rfl) rfl rfl ⟨(a8.out _ (q0a (Below.refl _ _)) _ _ v0), (a8.out _ (q0a (Below.refl _ _)) _ _ c8), (a8.out _ (q0a (Below.refl _ _)) _ _ c9), (a8.out _ (q0a (Below.refl _ _)) _ _ d0), (a8.out _ (q0a (Below.refl _ _)) _ _ d1), (a8.out _ (q0a (Below.refl _ _)) _ _ d2)⟩ ?_ (by kernel_rfl) (fun a4 => ?_)
   ·
    rintro ⟨_, _, h_⟩; exact h_
   refine ph 0 62 (ba 12 1) ?_
   refine th 1 63 (ba 12 3) a4 ?_
   refine ph 2 64 (ba 12 7) ?_
   refine ph 3 65 (ba 12 15) ?_
   refine ph 4 66 (ba 12 31) ?_
   refine ph 8 70 (ba 12 287) ?_
   refine th 5 67 (ba 12 319) a4 ?_
   refine ph 6 68 (ba 12 383) ?_
   refine th 7 69 (ba 12 511) a4 ?_
   refine oh 9 71 (ba 12 1023) fun K hK => ?_
   refine q2c Try.func45 (by kernel_rfl) rfl #[.agg (runV ky nm (some ad) xs.length c1 (q1n xs) A2 xs.length c2), .int .i64 ((x.val : Nat) : Int)] (by rfl) rfl rfl (by simp only [List.map_toArray, List.map_cons, List.map_nil]; rfl) ?_
   with_reducible refine (e6.out _ (q0a YB.out)).mono ?_
   rintro e d6 ⟨rfl, hb⟩
   refine ⟨_, rfl, ?_⟩
   have a6 := am (q0j (q0a (Below.refl w9.heap.size w9)) hb)
   clear hb
   refine hK.out _ _ ⟨(a8.out _ (a6.out) _ _ v0), (a8.out _ (a6.out) _ _ c8), (a8.out _ (a6.out) _ _ c9), (a8.out _ (a6.out) _ _ d0), (a8.out _ (a6.out) _ _ d1), (a8.out _ (a6.out) _ _ d2)⟩ (fun a4 => ?_)
   clear hK K
   refine nh ?_
   refine ph 10 72 (ba 12 2047) ?_
   refine ph 11 73 (ba 12 4095) ?_
   refine q2a (by kernel_rfl) ?_
   gi_wp2
   exact ⟨KeepsFrom.trans YK.out ((q1b a6.out).from _), YP.out.trans (a6.out.mono (Nat.le_trans b7.out.size YP.out.size)), ⟨⟨q0b Y1.out a6.out, q0b Y2.out a6.out, q0b Y3.out a6.out⟩, (by rw [List.length_append, f9.out]; exact q1h M9.out a6.out), q0j YB.out a6.out, Nat.le_trans YW.out a6.out.size, fun l_ => by rw [List.append_assoc]; refine (d5.out l_).trans ?_; rw [if_neg (by decide), if_neg d4.out, if_neg H5.out, d9.out, Option.bind_some, if_neg (by rw [e5.out]; decide)]; exact q3j k ts xs l_ _ _ g0.out⟩⟩
  case true.false =>
   refine q1v (n := 12) (S := fun w' => w'.cell? ⟨Bx, 0, none⟩ = some (.int .i64 s.f0) ∧ w'.cell? ⟨w.heap.size, 0, none⟩ = some (.string ky) ∧ w'.cell? ⟨w.heap.size, 1, none⟩ = some (.string nm) ∧ w'.cell? ⟨w.heap.size, 2, none⟩ = some (.slice (some ad) xs.length c1) ∧ w'.cell? ⟨w.heap.size, 3, none⟩ = some (.int .i64 (q1n xs)) ∧ w'.cell? ⟨w.heap.size, 4, none⟩ = some (.slice A2 xs.length c2)) (ds := []) (ba 12 0) (by kernel_rfl) rfl rfl ⟨(a8.out _ (q0a (Below.refl _ _)) _ _ v0), (a8.out _ (q0a (Below.refl _ _)) _ _ c8), (a8.out _ (q0a (Below.refl _ _)) _ _ c9), (a8.out _ (q0a (Below.refl _ _)) _ _ d0), (a8.out _ (q0a (Below.refl _ _)) _ _ d1), (a8.out _ (q0a (Below.refl _ _)) _ _ d2)⟩ ?_ (by kernel_rfl) (fun a4 => ?_)
   ·
    rintro ⟨_, _, h_⟩; exact h_
   refine ph 0 62 (ba 12 1) ?_
   refine th 1 63 (ba 12 3) a4 ?_
   refine ph 2 64 (ba 12 7) ?_
   refine ph 3 65 (ba 12 15) ?_
   refine ph 4 66 (ba 12 31) ?_
   refine ph 8 70 (ba 12 287) ?_
   refine th 5 67 (ba 12 319) a4 ?_
   refine ph 6 68 (ba 12 383) ?_
   refine th 7 69 (ba 12 511) a4 ?_
   refine oh 9 71 (ba 12 1023) fun K hK => ?_
   refine q2c Try.func45 (by kernel_rfl) rfl #[.agg (runV ky nm (some ad) xs.length c1 (q1n xs) A2 xs.length c2), .int .i64 ((x.val : Nat) : Int)] (by rfl) rfl rfl (by simp only [List.map_toArray, List.map_cons, List.map_nil]; rfl) ?_
   with_reducible refine (e6.out _ (q0a YB.out)).mono ?_
   rintro e d6 ⟨rfl, hb⟩
   refine ⟨_, rfl, ?_⟩
   have a6 := am (q0j (q0a (Below.refl w9.heap.size w9)) hb)
   clear hb
   refine hK.out _ _ ⟨(a8.out _ (a6.out) _ _ v0), (a8.out _ (a6.out) _ _ c8), (a8.out _ (a6.out) _ _ c9), (a8.out _ (a6.out) _ _ d0), (a8.out _ (a6.out) _ _ d1), (a8.out _ (a6.out) _ _ d2)⟩ (fun a4 => ?_)
   clear hK K
   refine nh ?_
   refine ph 10 72 (ba 12 2047) ?_
   refine ph 11 73 (ba 12 4095) ?_
   refine q2a (by kernel_rfl) ?_
   gi_wp2
   exact ⟨KeepsFrom.trans YK.out ((q1b a6.out).from _), YP.out.trans (a6.out.mono (Nat.le_trans b7.out.size YP.out.size)), ⟨⟨q0b Y1.out a6.out, q0b Y2.out a6.out, q0b Y3.out a6.out⟩, (by rw [List.length_append, f9.out]; exact q1h M9.out a6.out), q0j YB.out a6.out, Nat.le_trans YW.out a6.out.size, fun l_ => by rw [List.append_assoc]; refine (d5.out l_).trans ?_; rw [if_neg (by decide), if_neg d4.out, if_neg H5.out, d9.out, Option.bind_some, if_neg (by rw [e5.out]; decide)]; exact q3j k ts xs l_ _ _ g0.out⟩⟩
  case true.true =>
   refine q1v (n := 12) (S := fun w' => w'.cell? ⟨Bx, 0, none⟩ = some (.int .i64 s.f0) ∧ w'.cell? ⟨w.heap.size, 0, none⟩ = some (.string ky) ∧ w'.cell? ⟨w.heap.size, 1, none⟩ = some (.string nm) ∧ w'.cell? ⟨w.heap.size, 2, none⟩ = some (.slice (some ad) xs.length c1) ∧ w'.cell? ⟨w.heap.size, 3, none⟩ = some (.int .i64 (q1n xs)) ∧ w'.cell? ⟨w.heap.size, 4, none⟩ = some (.slice A2 xs.length c2)) (ds := []) (ba 12 0) (by kernel_rfl) rfl rfl ⟨(a8.out _ (q0a (Below.refl _ _)) _ _ v0), (a8.out _ (q0a (Below.refl _ _)) _ _ c8), (a8.out _ (q0a (Below.refl _ _)) _ _ c9), (a8.out _ (q0a (Below.refl _ _)) _ _ d0), (a8.out _ (q0a (Below.refl _ _)) _ _ d1), (a8.out _ (q0a (Below.refl _ _)) _ _ d2)⟩ ?_ (by kernel_rfl) (fun a4 => ?_)
   ·
    rintro ⟨_, _, h_⟩; exact h_
   refine ph 0 62 (ba 12 1) ?_
   refine th 1 63 (ba 12 3) a4 ?_
   refine ph 2 64 (ba 12 7) ?_
   refine ph 3 65 (ba 12 15) ?_
   refine ph 4 66 (ba 12 31) ?_
   refine ph 8 70 (ba 12 287) ?_
   refine th 5 67 (ba 12 319) a4 ?_
   refine ph 6 68 (ba 12 383) ?_
   refine th 7 69 (ba 12 511) a4 ?_
   refine oh 9 71 (ba 12 1023) fun K hK => ?_
   refine q2c Try.func45 (by kernel_rfl) rfl #[.agg (runV ky nm (some ad) xs.length c1 (q1n xs) A2 xs.length c2), .int .i64 ((x.val : Nat) : Int)] (by rfl) rfl rfl (by simp only [List.map_toArray, List.map_cons, List.map_nil]; rfl) ?_
   with_reducible refine (e6.out _ (q0a YB.out)).mono ?_
   rintro e d6 ⟨rfl, hb⟩
   refine ⟨_, rfl, ?_⟩
   have a6 := am (q0j (q0a (Below.refl w9.heap.size w9)) hb)
   clear hb
   refine hK.out _ _ ⟨(a8.out _ (a6.out) _ _ v0), (a8.out _ (a6.out) _ _ c8), (a8.out _ (a6.out) _ _ c9), (a8.out _ (a6.out) _ _ d0), (a8.out _ (a6.out) _ _ d1), (a8.out _ (a6.out) _ _ d2)⟩ (fun a4 => ?_)
   clear hK K
   refine nh ?_
   refine ph 10 72 (ba 12 2047) ?_
   refine ph 11 73 (ba 12 4095) ?_
   refine q2a (by kernel_rfl) ?_
   clear a4
   have q0 : d6.cell? ⟨w.heap.size + 1, 0, none⟩ = some (.bool false) := (q0i (q0b Y2.out a6.out) 0).trans rfl
   have b8 := q0k (q0b Y2.out a6.out) 0
   gi_wp2
   exact ⟨KeepsFrom.trans (KeepsFrom.trans YK.out ((q1b a6.out).from _)) ((KeepsOthers.setCell _ _ _).from _), rfl, q0o (cs := #[.bool false]) (cs' := #[.bool false]) (q0b Y2.out a6.out) 0 _ rfl, q0n (q0j YB.out a6.out) (by show w.heap.size ≤ w.heap.size + 1; omega), fun l_ => by rw [List.append_assoc]; refine (d5.out l_).trans ?_; rw [if_neg (by decide), if_neg d4.out, if_neg H5.out, d9.out, Option.bind_some, if_pos e5.out]⟩
 case done =>
  rintro D ls W hD rfl ⟨⟨h1, h2, h3⟩, h4, hB, hS, hP⟩ hK
  have d7 := hP []
  rw [List.append_nil, uptoF_all, HR.out, q3x] at d7
  obtain rfl := Option.some.inj d7
  have g3 : q0f (b = endF (q1n xs) xs) := ⟨by have h_ := h6.out; rwa [if_neg (by decide)] at h_⟩
  have B1 := am h1
  have B2 := am h2
  have HB := am hB
  have EK := am hK
  clear h1 h2 h3 h4 hB hS hP hK d7 h6
  clear HR HG HDR HE f5 BM B3 i5
  generalize q1n xs = kk at *
  by_cases k2 : kk = 2
  case pos =>
   subst k2
   obtain ⟨b0, b1, b2, b3, b4⟩ := ce5 B1.out
   have q0 : W.cell? ⟨w.heap.size + 1, 0, none⟩ = some (.bool false) := bc B2.out
   have b8 := q0k B2.out 0
   gi_wp2_with (refine ⟨trivial, ?_⟩; gi_at_call 46; refine (callsIn_wide.2 (q1x ky nm A1 xs.length c1 2 A2 c2 xs (some ⟨W.heap.size, 0, none⟩) [0, 1, 2] 3 rfl _ (Kd.C_alloc (Kd.C_below HC.out HB.out) _) HL.out (lit_C W [0, 1, 2] (by simp)) (by simp))).mono ?_; rintro e wA ⟨rfl, hb⟩; have X1 := am (q0b (q0h B1.out _) hb); have X2 := am (q0b (q0h B2.out _) hb); have XK := am (q0b (q0h EK.out _) hb); have XB := am (q0j (q0d HB.out _) hb); clear B1 B2 EK HB hb b0 b1 b2 b3 b4 q0 b8; have B1 := X1; have B2 := X2; have EK := XK; have HB := XB; clear X1 X2 XK XB; obtain ⟨b0, b1, b2, b3, b4⟩ := ce5 B1.out; have q0 : wA.cell? ⟨w.heap.size + 1, 0, none⟩ = some (.bool false) := bc B2.out; have b8 := q0k B2.out 0)
   have F2 := am (show (wA.setCell ⟨w.heap.size + 1, 0, none⟩ (.bool (cntA [0, 1, 2] xs == 0))).heap[w.heap.size + 1]? = some (.cells (#[(.bool (cntA [0, 1, 2] xs == 0))] : Array Value) 4 (0, 0)) from q0o (cs := #[.bool false]) (cs' := #[.bool (cntA [0, 1, 2] xs == 0)]) B2.out 0 _ rfl)
   have FK := am (show (wA.setCell ⟨w.heap.size + 1, 0, none⟩ (.bool (cntA [0, 1, 2] xs == 0))).heap[D]? = some (.deferred (some [])) from (Below.heap_setCell _ _ _ D (by show D ≠ w.heap.size + 1; have b5 := HS.out; have c6 := d3.out; omega)).trans EK.out)
   have FB := am (show Below w.heap.size w (wA.setCell ⟨w.heap.size + 1, 0, none⟩ (.bool (cntA [0, 1, 2] xs == 0))) from q0n HB.out (by show w.heap.size ≤ w.heap.size + 1; omega))
   generalize (wA.setCell ⟨w.heap.size + 1, 0, none⟩ (.bool (cntA [0, 1, 2] xs == 0))) = wE at *
   refine ⟨by simp, .inl ⟨_, _, rfl, run_takeDeferred FK.out, ?_⟩⟩
   have P2 : (wE.putObj D (.deferred none)).heap[w.heap.size + 1]? = some (.cells (#[(.bool (cntA [0, 1, 2] xs == 0))] : Array Value) 4 (0, 0)) := (World.putObj_heap_other (by have b5 := HS.out; have c6 := d3.out; omega)).trans F2.out
   exact ⟨_, q3l rfl _ _ (w.heap.size + 1) (.bool (cntA [0, 1, 2] xs == 0)) rfl (load4 _ _ _ (bc P2)), by rw [g3.out]; (unfold endF; rw [if_pos rfl]; rfl), FB.out.trans (belowK_b (w := w) (Nat.le_refl _) wE D _ _ (by have b5 := HS.out; have c6 := d3.out; omega) FK.out rfl rfl)⟩
  by_cases k0 : kk = 0
  case pos =>
   subst k0
   clear k2
   obtain ⟨b0, b1, b2, b3, b4⟩ := ce5 B1.out
   have q0 : W.cell? ⟨w.heap.size + 1, 0, none⟩ = some (.bool false) := bc B2.out
   have b8 := q0k B2.out 0
   gi_wp2_with (first | (refine ⟨trivial, ?_⟩; gi_at_call 46; refine (callsIn_wide.2 (q1x ky nm A1 xs.length c1 0 A2 c2 xs (some ⟨W.heap.size, 0, none⟩) [0, 1, 2] 3 rfl _ (Kd.C_alloc (Kd.C_below HC.out HB.out) _) HL.out (lit_C W [0, 1, 2] (by simp)) (by simp))).mono ?_; rintro e wA ⟨rfl, hb⟩; have X1 := am (q0b (q0h B1.out _) hb); have X2 := am (q0b (q0h B2.out _) hb); have XK := am (q0b (q0h EK.out _) hb); have XB := am (q0j (q0d HB.out _) hb); clear B1 B2 EK HB hb b0 b1 b2 b3 b4 q0 b8; have B1 := X1; have B2 := X2; have EK := XK; have HB := XB; clear X1 X2 XK XB; obtain ⟨b0, b1, b2, b3, b4⟩ := ce5 B1.out; have q0 : wA.cell? ⟨w.heap.size + 1, 0, none⟩ = some (.bool false) := bc B2.out; have b8 := q0k B2.out 0) | (refine ⟨trivial, ?_⟩; gi_at_call 46; refine (callsIn_wide.2 (q1x ky nm A1 xs.length c1 0 A2 c2 xs (some ⟨wA.heap.size, 0, none⟩) [5] 1 rfl _ (Kd.C_alloc (Kd.C_below HC.out HB.out) _) HL.out (lit_C wA [5] (by simp)) (by simp))).mono ?_; rintro e wZ ⟨rfl, hb⟩; have X1 := am (q0b (q0h B1.out _) hb); have X2 := am (q0b (q0h B2.out _) hb); have XK := am (q0b (q0h EK.out _) hb); have XB := am (q0j (q0d HB.out _) hb); clear B1 B2 EK HB hb b0 b1 b2 b3 b4 q0 b8; have B1 := X1; have B2 := X2; have EK := XK; have HB := XB; clear X1 X2 XK XB; obtain ⟨b0, b1, b2, b3, b4⟩ := ce5 B1.out; have q0 : wZ.cell? ⟨w.heap.size + 1, 0, none⟩ = some (.bool false) := bc B2.out; have b8 := q0k B2.out 0))
   have F2 := am (show (wZ.setCell ⟨w.heap.size + 1, 0, none⟩ (.bool (cntA [5] xs == 0))).heap[w.heap.size + 1]? = some (.cells (#[(.bool (cntA [5] xs == 0))] : Array Value) 4 (0, 0)) from q0o (cs := #[.bool false]) (cs' := #[.bool (cntA [5] xs == 0)]) B2.out 0 _ rfl)
   have FK := am (show (wZ.setCell ⟨w.heap.size + 1, 0, none⟩ (.bool (cntA [5] xs == 0))).heap[D]? = some (.deferred (some [])) from (Below.heap_setCell _ _ _ D (by show D ≠ w.heap.size + 1; have b5 := HS.out; have c6 := d3.out; omega)).trans EK.out)
   have FB := am (show Below w.heap.size w (wZ.setCell ⟨w.heap.size + 1, 0, none⟩ (.bool (cntA [5] xs == 0))) from q0n HB.out (by show w.heap.size ≤ w.heap.size + 1; omega))
   generalize (wZ.setCell ⟨w.heap.size + 1, 0, none⟩ (.bool (cntA [5] xs == 0))) = wE at *
   refine ⟨by simp, .inl ⟨_, _, rfl, run_takeDeferred FK.out, ?_⟩⟩
   have P2 : (wE.putObj D (.deferred none)).heap[w.heap.size + 1]? = some (.cells (#[(.bool (cntA [5] xs == 0))] : Array Value) 4 (0, 0)) := (World.putObj_heap_other (by have b5 := HS.out; have c6 := d3.out; omega)).trans F2.out
   exact ⟨_, q3l rfl _ _ (w.heap.size + 1) (.bool (cntA [5] xs == 0)) rfl (load4 _ _ _ (bc P2)), by rw [g3.out]; (unfold endF; rw [if_neg (by decide), if_pos rfl]; rfl), FB.out.trans (belowK_b (w := w) (Nat.le_refl _) wE D _ _ (by have b5 := HS.out; have c6 := d3.out; omega) FK.out rfl rfl)⟩
  have j9 := am k2
  have j8 := am k0
  have E2 : (kk == 2) = false := beq_eq_false_iff_ne.2 k2
  have E0 : (kk == 0) = false := beq_eq_false_iff_ne.2 k0
  clear k2 k0
  obtain ⟨b0, b1, b2, b3, b4⟩ := ce5 B1.out
  have q0 : W.cell? ⟨w.heap.size + 1, 0, none⟩ = some (.bool false) := bc B2.out
  have b8 := q0k B2.out 0
  gi_wp2_with (refine ⟨trivial, ?_⟩; gi_at_call 46; refine (callsIn_wide.2 (q1x ky nm A1 xs.length c1 kk A2 c2 xs (some ⟨W.heap.size, 0, none⟩) [0, 1, 2] 3 rfl _ (Kd.C_alloc (Kd.C_below HC.out HB.out) _) HL.out (lit_C W [0, 1, 2] (by simp)) (by simp))).mono ?_; rintro e wA ⟨rfl, hb⟩; have X1 := am (q0b (q0h B1.out _) hb); have X2 := am (q0b (q0h B2.out _) hb); have XK := am (q0b (q0h EK.out _) hb); have XB := am (q0j (q0d HB.out _) hb); clear B1 B2 EK HB hb b0 b1 b2 b3 b4 q0 b8; have B1 := X1; have B2 := X2; have EK := XK; have HB := XB; clear X1 X2 XK XB; obtain ⟨b0, b1, b2, b3, b4⟩ := ce5 B1.out; have q0 : wA.cell? ⟨w.heap.size + 1, 0, none⟩ = some (.bool false) := bc B2.out; have b8 := q0k B2.out 0)
  have F2 := am (show (wA.setCell ⟨w.heap.size + 1, 0, none⟩ (.bool true)).heap[w.heap.size + 1]? = some (.cells (#[(.bool true)] : Array Value) 4 (0, 0)) from q0o (cs := #[.bool false]) (cs' := #[.bool true]) B2.out 0 _ rfl)
  have FK := am (show (wA.setCell ⟨w.heap.size + 1, 0, none⟩ (.bool true)).heap[D]? = some (.deferred (some [])) from (Below.heap_setCell _ _ _ D (by show D ≠ w.heap.size + 1; have b5 := HS.out; have c6 := d3.out; omega)).trans EK.out)
  have FB := am (show Below w.heap.size w (wA.setCell ⟨w.heap.size + 1, 0, none⟩ (.bool true)) from q0n HB.out (by show w.heap.size ≤ w.heap.size + 1; omega))
  generalize (wA.setCell ⟨w.heap.size + 1, 0, none⟩ (.bool true)) = wE at *
  refine ⟨by simp, .inl ⟨_, _, rfl, run_takeDeferred FK.out, ?_⟩⟩
  have P2 : (wE.putObj D (.deferred none)).heap[w.heap.size + 1]? = some (.cells (#[(.bool true)] : Array Value) 4 (0, 0)) := (World.putObj_heap_other (by have b5 := HS.out; have c6 := d3.out; omega)).trans F2.out
  exact ⟨_, q3l rfl _ _ (w.heap.size + 1) (.bool true) rfl (load4 _ _ _ (bc P2)), by rw [g3.out]; (unfold endF; rw [if_neg j9.out, if_neg j8.out]), FB.out.trans (belowK_b (w := w) (Nat.le_refl _) wE D _ _ (by have b5 := HS.out; have c6 := d3.out; omega) FK.out rfl rfl)⟩
 case stop =>
  rintro D c b6 W hD ⟨kk, l4, g9⟩ ⟨rfl, h2, hB, hP⟩ hK
  have d7 := hP ((List.finRange xs.length).drop kk)
  have j5 : b6 = (List.finRange xs.length).take kk := g9
  rw [j5, List.take_append_drop, HR.out] at d7
  obtain rfl := Option.some.inj d7
  have g3 : q0f (b = false) := ⟨by have h_ := h6.out; rwa [if_pos rfl] at h_⟩
  have F2 := am h2
  have FB := am hB
  have FK := am hK
  clear h2 hB hP hK d7 j5 g9 h6
  generalize W = wE at *
  gi_wp2
  refine ⟨by simp, .inl ⟨_, _, rfl, run_takeDeferred FK.out, ?_⟩⟩
  have P2 : (wE.putObj D (.deferred none)).heap[w.heap.size + 1]? = some (.cells (#[(.bool false)] : Array Value) 4 (0, 0)) := (World.putObj_heap_other (by have b5 := HS.out; have c6 := d3.out; omega)).trans F2.out
  exact ⟨_, q3l rfl _ _ (w.heap.size + 1) (.bool false) rfl (load4 _ _ _ (bc P2)), by rw [g3.out], FB.out.trans (belowK_b (w := w) (Nat.le_refl _) wE D _ _ (by have b5 := HS.out; have c6 := d3.out; omega) FK.out rfl rfl)⟩
namespace X
theorem Gj.calls (k : Nat) (a4 a5 : ByteArray) (a2 : Option Addr) (a7 : Nat) (a0 : List S49) (a6 : Int) (a3 : Option Addr) (a8 : Nat) (a1 : List S51) (r : Bool) (w : World) (b0 : Kd.C k49 w a2 a0.length a0) (a9 : a0.length ≤ a7) (b1 : Kd.C k51 w a3 a1.length a1) (b2 : a1.length ≤ a8) (h : Gj.f k a4 a5 a0 a6 a1 = some r) :
  Calls Try.prog 17 #[.agg #[.string a4, .string a5, .slice a2 a0.length a7, .int .i64 a6, .slice a3 a1.length a8]] w fun e w' => e = .returned (.bool r) ∧ Below w.heap.size w w' :=
 q4y k a4 a5 a2 a7 a0 a6 a3 a8 a1 r w b0 a9 b1 h
end X
end Go.Proofs.Ytabmkighhmchmaa
namespace Go.Proofs.Ytabmkighhmchmaa
open Go.RowKit Go.Shelf Go.YW.PrintWords Go.YW.PrintLast Go.YW.PrintMore Go.YW.Sq
open X (S49 S51 k49 k51 q0e q0c q1q q1u z51)
set_option linter.unusedVariables false
set_option linter.unusedSimpArgs false
def settlePost (ky nm : ByteArray) (A1 : Option Addr) (c1 : Nat) (ts : List S49) (A2 : Option Addr) (c2 : Nat) (xs : List S51) (w : World) (p : Option (Int × List S51)) (e : Ending) (w' : World) : Prop :=
 (match p with
 | none => e = .returned (.tuple #[.agg #[(.string (⟨#[]⟩ : ByteArray)), (.string (⟨#[]⟩ : ByteArray)), (.slice none 0 0), (.int .i64 0), (.slice none 0 0)], .int .i64 1])
 | some p => ∃ v, e = .returned (.tuple #[.agg #[(.string ky), (.string nm), (.slice A1 ts.length c1), (.int .i64 p.1), (v)], .int .i64 0]) ∧ q1c w w' A2 c2 xs v p.2) ∧ Below w.heap.size w w'
theorem settleL_ne (k : Nat) (ts : List S49) (now u : Int) (q : Nat) (is : Int) (zs : List S51) (p : Int × List S51) (h : q4k k ts now u q is zs = some p) : ∃ q', q = q' + 1 := by
 cases q with
 | zero => cases h
 | succ q => exact ⟨q, rfl⟩
set_option maxHeartbeats 4000000 in
set_option maxRecDepth 100000 in
theorem q2j (k : Nat) (ky nm : ByteArray) (A1 : Option Addr) (c1 : Nat) (ts : List S49) (is : Int) (A2 : Option Addr) (c2 : Nat) (xs : List S51) (now : Int) (p : Option (Int × List S51)) (w : World) (hT : Kd.C k49 w A1 ts.length ts) (ht : ts.length ≤ c1) (hC : Kd.C k51 w A2 xs.length xs) (h : q3u k ky nm ts is xs now = some p) :
  Calls Try.prog 14 #[.agg #[(.string ky), (.string nm), (.slice A1 ts.length c1), (.int .i64 is), (.slice A2 xs.length c2)], .int .i64 now] w fun e w' => settlePost ky nm A1 c1 ts A2 c2 xs w p e w' := by
 have i7 := Try.underlying27
 have i5 := Try.underlying24
 have i8 := Try.underlying49
 have i9 := Try.underlying51
 have i4 := Try.underlying22
 have i6 := Try.underlying25
 have HC := am hC
 have HT := am hT
 have e1 := am ht
 have HB := am (Below.refl w.heap.size w)
 have d6 := am (settleO_cases h)
 clear hT hC h ht
 rcases d6.out with ⟨hr, rfl⟩ | ⟨hr, hi, rfl⟩ | ⟨hr, hi, u, p, hu, hl, rfl⟩
 ·
  have HR := am hr
  clear hr d6
  go_enter Try.func14, Try.ntmps14
  go_wp2_with (first | ((with_reducible refine gD 2 ?_); refine bz 2 (#[(.string ky), (.string nm), (.slice A1 ts.length c1), (.int .i64 is), (.slice A2 xs.length c2)] : Array Value) 27 HB ?_; clear HB; intro g1 hg c8 hb B1 b8 HB; clear hb hg) | ((with_reducible refine gD 4 ?_); refine bz 4 (#[(.string (⟨#[]⟩ : ByteArray)), (.string (⟨#[]⟩ : ByteArray)), (.slice none 0 0), (.int .i64 0), (.slice none 0 0)] : Array Value) 27 HB ?_; clear HB; intro g2 hg d5 hb B2 b9 HB; have a5 := nP hg B1; have a8 := am a5.out.symm; replace B1 := kP B1 hb; clear hb hg; obtain ⟨b0, b1, b2, b3, b4⟩ := ce5 B1.out) | (go_at_call 17; refine (q4y k ky nm A1 c1 ts _ A2 c2 xs false _ (Kd.C_below HT.out HB.out) e1.out (Kd.C_below HC.out HB.out) HR.out).mono ?_; rintro e w3 ⟨rfl, hb⟩; replace B1 := kP B1 hb; replace B2 := kP B2 hb; replace HB := bS HB hb; clear hb; clear b0 b1 b2 b3 b4; obtain ⟨b0, b1, b2, b3, b4⟩ := ce5 B1.out; obtain ⟨d0, d1, d2, d3, d4⟩ := ce5 B2.out; obtain ⟨f9, g0, g3, g4, g5⟩ := z5 B2.out))
  refine bodyPost_ret (q1a rfl _ _ g2 27 (#[(.string (⟨#[]⟩ : ByteArray)), (.string (⟨#[]⟩ : ByteArray)), (.slice none 0 0), (.int .i64 0), (.slice none 0 0)] : Array Value) (0, 0) _ rfl (pP B2.out) Try.underlying27 rfl (by kernel_rfl)) rfl ?_
  exact ⟨rfl, pB HB.out⟩
 ·
  have HR := am hr
  have HI := am hi
  have k2 : (is == 0) = false := beq_eq_false_iff_ne.2 hi
  clear hr d6 hi
  go_enter Try.func14, Try.ntmps14
  go_wp2_with (first | ((with_reducible refine gD 2 ?_); refine bz 2 (#[(.string ky), (.string nm), (.slice A1 ts.length c1), (.int .i64 is), (.slice A2 xs.length c2)] : Array Value) 27 HB ?_; clear HB; intro g1 hg c8 hb B1 b8 HB; clear hb hg) | ((with_reducible refine gD 4 ?_); refine bz 4 (#[(.string (⟨#[]⟩ : ByteArray)), (.string (⟨#[]⟩ : ByteArray)), (.slice none 0 0), (.int .i64 0), (.slice none 0 0)] : Array Value) 27 HB ?_; clear HB; intro g2 hg d5 hb B2 b9 HB; have a5 := nP hg B1; have a8 := am a5.out.symm; replace B1 := kP B1 hb; clear hb hg; obtain ⟨b0, b1, b2, b3, b4⟩ := ce5 B1.out) | (go_at_call 17; refine (q4y k ky nm A1 c1 ts _ A2 c2 xs true _ (Kd.C_below HT.out HB.out) e1.out (Kd.C_below HC.out HB.out) HR.out).mono ?_; rintro e w3 ⟨rfl, hb⟩; replace B1 := kP B1 hb; replace B2 := kP B2 hb; replace HB := bS HB hb; clear hb; clear b0 b1 b2 b3 b4; obtain ⟨b0, b1, b2, b3, b4⟩ := ce5 B1.out; obtain ⟨d0, d1, d2, d3, d4⟩ := ce5 B2.out; obtain ⟨f9, g0, g3, g4, g5⟩ := z5 B2.out))
  refine bodyPost_ret (q1a rfl _ _ g2 27 (#[(.string ky), (.string nm), (.slice A1 ts.length c1), (.int .i64 is), (.slice A2 xs.length c2)] : Array Value) (0, 0) _ rfl (pP B2.out) Try.underlying27 rfl (by kernel_rfl)) rfl ?_
  exact ⟨⟨_, rfl, q1c.start _ _ _ _ _⟩, pB HB.out⟩
 have HR := am hr
 have d7 := am (rightF_len hr)
 have f6 := am hl
 have HU := am hu
 subst hi
 clear hr d6 hl hu
 go_enter Try.func14, Try.ntmps14
 go_wp2_with (first | ((with_reducible refine gD 2 ?_); refine bz 2 (#[(.string ky), (.string nm), (.slice A1 ts.length c1), (.int .i64 0), (.slice A2 xs.length c2)] : Array Value) 27 HB ?_; clear HB; intro g1 hg c8 hb B1 b8 HB; clear hb hg) | ((with_reducible refine gD 4 ?_); refine bz 4 (#[(.string (⟨#[]⟩ : ByteArray)), (.string (⟨#[]⟩ : ByteArray)), (.slice none 0 0), (.int .i64 0), (.slice none 0 0)] : Array Value) 27 HB ?_; clear HB; intro g2 hg d5 hb B2 b9 HB; have a5 := nP hg B1; have a8 := am a5.out.symm; replace B1 := kP B1 hb; clear hb hg; obtain ⟨b0, b1, b2, b3, b4⟩ := ce5 B1.out) | (go_at_call 17; refine (q4y k ky nm A1 c1 ts _ A2 c2 xs true _ (Kd.C_below HT.out HB.out) e1.out (Kd.C_below HC.out HB.out) HR.out).mono ?_; rintro e w3 ⟨rfl, hb⟩; replace B1 := kP B1 hb; replace B2 := kP B2 hb; replace HB := bS HB hb; clear hb; clear b0 b1 b2 b3 b4; obtain ⟨b0, b1, b2, b3, b4⟩ := ce5 B1.out) | (go_at_call 36; refine (first_in k u ky nm A1 ts.length c1 0 A2 c2 xs now _ (Kd.C_below HC.out HB.out) d7.out.2 HU.out).mono ?_; rintro e w4 ⟨rfl, hb⟩; replace B1 := kP B1 hb; replace B2 := kP B2 hb; replace HB := bS HB hb; clear b0 b1 b2 b3 b4 hb))
 go_loopg [6] k (fun kq v6 wr => ∃ (m : Int) (is' : Int) (zs : List S51) (A : Option Addr) (c : Nat), v6 = .int .i64 m ∧ q0f (m = q2o u zs (List.finRange zs.length)) ∧ q0f (q4k k ts now u kq is' zs = some p) ∧ q0f (zs.length = xs.length) ∧ q0f (q1c w wr A2 c2 xs (.slice A xs.length c) zs) ∧ q0f (wr.heap[g1]? = some (.cells (#[(.string ky), (.string nm), (.slice A1 ts.length c1), (.int .i64 is'), (.slice A xs.length c)] : Array Value) 27 (0, 0))) ∧ q0f (wr.heap[g2]? = some (.cells (#[(.string (⟨#[]⟩ : ByteArray)), (.string (⟨#[]⟩ : ByteArray)), (.slice none 0 0), (.int .i64 0), (.slice none 0 0)] : Array Value) 27 (0, 0))) ∧ q0f (Below w.heap.size w wr))
 case atStart => exact ⟨_, 0, xs, A2, c2, rfl, ⟨rfl⟩, f6, ⟨rfl⟩, ⟨q1c.start _ _ _ _ _⟩, B1, B2, HB⟩
 case round =>
  clear f6 B1 B2 HB
  obtain ⟨mI, is', zs, A, c, rfl, HM, HS, HZ, H3, B1, B2, HB⟩ := hrel
  obtain ⟨q, rfl⟩ := settleL_ne _ _ _ _ _ _ _ _ HS.out
  have hs := HS.out
  rw [q4k, ← HM.out] at hs
  by_cases hm : 0 ≤ mI
  case neg =>
   rw [if_neg hm] at hs
   obtain rfl := Option.some.inj hs
   clear hs
   obtain ⟨b0, b1, b2, b3, b4⟩ := ce5 B1.out
   obtain ⟨d0, d1, d2, d3, d4⟩ := ce5 B2.out
   obtain ⟨f9, g0, g3, g4, g5⟩ := z5 B2.out
   go_wp2
   refine bodyPost_ret (q1a rfl _ _ g2 27 (#[(.string ky), (.string nm), (.slice A1 ts.length c1), (.int .i64 is'), (.slice A xs.length c)] : Array Value) (0, 0) _ rfl (pP B2.out) Try.underlying27 rfl (by kernel_rfl)) rfl ?_
   exact ⟨⟨_, rfl, (q1c.set (q1c.set (q1c.set (q1c.set (q1c.set H3.out B2.out (by decide) _ _) (pP (cs' := #[(.string ky), (.string (⟨#[]⟩ : ByteArray)), (.slice none 0 0), (.int .i64 0), (.slice none 0 0)]) B2.out) (by decide) _ _) (pP (cs' := #[(.string ky), (.string nm), (.slice none 0 0), (.int .i64 0), (.slice none 0 0)]) B2.out) (by decide) _ _) (pP (cs' := #[(.string ky), (.string nm), (.slice A1 ts.length c1), (.int .i64 0), (.slice none 0 0)]) B2.out) (by decide) _ _) (pP (cs' := #[(.string ky), (.string nm), (.slice A1 ts.length c1), (.int .i64 is'), (.slice none 0 0)]) B2.out) (by decide) _ _)⟩, pB HB.out⟩
  rw [if_pos hm] at hs
  obtain ⟨s', h0, h2⟩ := Option.bind_eq_some_iff.1 hs
  obtain ⟨⟨a9, ys⟩, e3, e4⟩ := Option.bind_eq_some_iff.1 h2
  dsimp only at e4
  clear hs h2
  obtain ⟨m, rfl⟩ : ∃ m : Nat, mI = (m : Int) := ⟨mI.toNat, by omega⟩
  have c7 : m < zs.length := by have := (firstF_lt u zs (List.finRange zs.length)).2; have := HM.out; omega
  rw [Int.toNat_natCast] at e3
  have HE := am (expireO_f h0)
  have HN := am e3
  have HQ := am e4
  have d8 := am c7
  clear e4 h0 e3 c7 HS HM
  have p0 : (0 : Int) ≤ (m : Int) := by omega
  have p1 : (m : Int) < (xs.length : Int) := by have := d8.out; have := HZ.out; omega
  have p2 : (m : Int) < (ts.length : Int) := by have := d7.out.1; omega
  obtain ⟨b0, b1, b2, b3, b4⟩ := ce5 B1.out
  have c6 := q0k B1.out 4
  go_upto_region 9 with (go_at_call 37; refine (clone_n A c zs xs.length HZ.out _ (q1c.reads H3.out HC.out HB.out) (by rw [HZ.out]; exact d7.out.2)).mono ?_; rintro e w5 ⟨v5, rfl, ho, hb⟩; obtain ⟨A5, c5, e5⟩ := Kd.R_slice ho; rw [HZ.out] at e5; subst e5; have H5 := am (Kd.R_lower ho (q0p HB.out)); replace B1 := kP B1 hb; replace B2 := kP B2 hb; replace HB := bS HB hb; clear b0 b1 b2 b3 b4 c6 H3 hb; clear ho; obtain ⟨b0, b1, b2, b3, b4⟩ := ce5 B1.out; have c6 := q0k B1.out 4)
  have X1 := am (show (w5.setCell ⟨g1, 4, none⟩ (.slice A5 xs.length c5)).heap[g1]? = some (.cells (#[(.string ky), (.string nm), (.slice A1 ts.length c1), (.int .i64 is'), (.slice A5 xs.length c5)] : Array Value) 27 (0, 0)) from pP B1.out)
  have X2 := am (show (w5.setCell ⟨g1, 4, none⟩ (.slice A5 xs.length c5)).heap[g2]? = some (.cells (#[(.string (⟨#[]⟩ : ByteArray)), (.string (⟨#[]⟩ : ByteArray)), (.slice none 0 0), (.int .i64 0), (.slice none 0 0)] : Array Value) 27 (0, 0)) from pP B2.out)
  have X5 := am (Kd.R_set H5.out B1.out (by decide) 4 (.slice A5 xs.length c5))
  have XB := am (show Below w.heap.size w (w5.setCell ⟨g1, 4, none⟩ (.slice A5 xs.length c5)) from pB HB.out)
  clear B1 B2 H5 HB b0 b1 b2 b3 b4 c6
  have B1 := X1
  have B2 := X2
  have H5 := X5
  have HB := XB
  clear X1 X2 X5 XB
  generalize (w5.setCell ⟨g1, 4, none⟩ (.slice A5 xs.length c5)) = w6 at *
  obtain ⟨g, k0, e6, i2, k1, e2, b5⟩ := Kd.R_form H5.out (by have := d8.out; omega)
  injection e6 with e6 e7 e8
  subst e6
  subst e8
  clear e7
  obtain ⟨cc, i1, g6, b7, g9⟩ := Kd.R_elem H5.out z51 (m : Int) (by omega) (by have := d8.out; omega)
  rw [Int.toNat_natCast] at b7 g9
  have b6 : k51.M w6 w.heap.size (fun _ => True) (q0c zs (m : Int)) cc := g6
  clear g6
  generalize i3 : q0c zs (m : Int) = s at b6 HE
  obtain rfl := X.k51_openM b6
  clear b6 i1 i3
  have t0 : w6.cell? ⟨g, m * 5, none⟩ = some (.int .i64 s.f0) := b7 0 _ rfl
  have t1 : w6.cell? ⟨g, m * 5 + 1, none⟩ = some (.int .i64 s.f1) := b7 1 _ rfl
  have t2 : w6.cell? ⟨g, m * 5 + 2, none⟩ = some (.int .i64 s.f2) := b7 2 _ rfl
  have t3 : w6.cell? ⟨g, m * 5 + 3, none⟩ = some (.int .i64 s.f3) := b7 3 _ rfl
  have t4 : w6.cell? ⟨g, m * 5 + 4, none⟩ = some (.string s.f4) := b7 4 _ rfl
  have j0 : w6.frozen? ⟨g, m * 5, none⟩ = false := q0k b5 _
  have j1 : w6.frozen? ⟨g, m * 5 + 1, none⟩ = false := q0k b5 _
  have j2 : w6.frozen? ⟨g, m * 5 + 2, none⟩ = false := q0k b5 _
  have j3 : w6.frozen? ⟨g, m * 5 + 3, none⟩ = false := q0k b5 _
  have j4 : w6.frozen? ⟨g, m * 5 + 4, none⟩ = false := q0k b5 _
  obtain ⟨ad, A0, c0, eA, a0, a1, a2, a3, g8, g7⟩ := q1q (Kd.C_below HT.out HB.out) (m : Int) p0 p2
  subst eA
  rw [Int.toNat_natCast] at a0 a1 a2 a3
  generalize q0e ts (m : Int) = t at *
  have h3 := am g7
  have h4 := am g8
  clear g7 g8 b7 g9
  have h5 := am (Kd.own_blk (Kd.R_ne H5.out B1.out (by decide)))
  have h6 := am (Kd.own_blk (Kd.R_ne H5.out B2.out (by decide)))
  have b4 : w6.cell? ⟨g1, 4, none⟩ = some (.slice (some ⟨g, 0, none⟩) xs.length c5) := bc B1.out
  have b2 : w6.cell? ⟨g1, 2, none⟩ = some (.slice (some ad) ts.length c1) := bc B1.out
  have a4 := am (fun (W : World) (hW : Below w6.heap.size w6 W) (a : Addr) (v : Value) (h : w6.cell? a = some v) => show W.cell? a = some v from (hW.cell (World.block_lt_of_cell? w6 _ h)).trans h)
  refine q2i (n := 18) (S := fun w' => w'.cell? ⟨g1, 4, none⟩ = some (.slice (some ⟨g, 0, none⟩) xs.length c5) ∧ w'.cell? ⟨g1, 2, none⟩ = some (.slice (some ad) ts.length c1) ∧ w'.cell? (ad.add (m * 4)) = some (.slice A0 t.f0.length c0) ∧ w'.cell? ⟨(ad.add (m * 4)).block, (ad.add (m * 4)).off + 1, none⟩ = some (.int .i64 t.f1) ∧ w'.cell? ⟨(ad.add (m * 4)).block, (ad.add (m * 4)).off + 2, none⟩ = some (.int .i64 t.f2) ∧ w'.cell? ⟨(ad.add (m * 4)).block, (ad.add (m * 4)).off + 3, none⟩ = some (.int .i64 t.f3) ∧ w'.cell? ⟨g, m * 5, none⟩ = some (.int .i64 s.f0) ∧ w'.cell? ⟨g, m * 5 + 1, none⟩ = some (.int .i64 s.f1) ∧ w'.cell? ⟨g, m * 5 + 2, none⟩ = some (.int .i64 s.f2) ∧ w'.cell? ⟨g, m * 5 + 3, none⟩ = some (.int .i64 s.f3) ∧ w'.cell? ⟨g, m * 5 + 4, none⟩ = some (.string s.f4)) (ds := [17]) (ba 18 0) (by kernel_rfl) rfl rfl ⟨(a4.out _ (q0a (Below.refl _ _)) _ _ b4), (a4.out _ (q0a (Below.refl _ _)) _ _ b2), (a4.out _ (q0a (Below.refl _ _)) _ _ a0), (a4.out _ (q0a (Below.refl _ _)) _ _ a1), (a4.out _ (q0a (Below.refl _ _)) _ _ a2), (a4.out _ (q0a (Below.refl _ _)) _ _ a3), (a4.out _ (q0a (Below.refl _ _)) _ _ t0), (a4.out _ (q0a (Below.refl _ _)) _ _ t1), (a4.out _ (q0a (Below.refl _ _)) _ _ t2), (a4.out _ (q0a (Below.refl _ _)) _ _ t3), (a4.out _ (q0a (Below.refl _ _)) _ _ t4)⟩ (fun a7 => ?_)
  refine ph 0 29 (ba 18 1) ?_
  refine ph 2 31 (ba 18 5) ?_
  refine ph 3 32 (ba 18 13) ?_
  refine ph 4 33 (ba 18 29) ?_
  refine ph 6 35 (ba 18 93) ?_
  refine ph 9 38 (ba 18 605) ?_
  refine ph 11 40 (ba 18 2653) ?_
  refine ph 14 43 (ba 18 19037) ?_
  refine th 1 30 (ba 18 19039) a7 ?_
  refine th 5 34 (ba 18 19071) a7 ?_
  refine ph 7 36 (ba 18 19199) ?_
  refine th 8 37 (ba 18 19455) a7 ?_
  refine th 10 39 (ba 18 20479) a7 ?_
  refine ph 12 41 (ba 18 24575) ?_
  refine th 13 42 (ba 18 32767) a7 ?_
  refine oh 15 44 (ba 18 65535) fun K hK => ?_
  refine q2c Try.func38 (by kernel_rfl) rfl #[.agg #[.slice A0 t.f0.length c0, .int .i64 t.f1, .int .i64 t.f2, .int .i64 t.f3], .agg #[.int .i64 s.f0, .int .i64 s.f1, .int .i64 s.f2, .int .i64 s.f3, .string s.f4], .int .i64 now] (by rfl) rfl rfl (by simp only [List.map_toArray, List.map_cons, List.map_nil]; rfl) ?_
  with_reducible refine (X.Fv.calls k A0 c0 t.f0 t.f1 t.f2 t.f3 s.f0 s.f1 s.f2 s.f3 s.f4 now _ _ _ _ _ _ (Kd.C_below h3.out (q0a (Below.refl _ _))) h4.out HE.out).mono ?_
  rintro e w7 ⟨rfl, hb⟩
  refine ⟨_, rfl, ?_⟩
  have a6 := am (q0j (q0a (Below.refl w6.heap.size w6)) hb)
  clear hb
  have z0 := a4.out _ a6.out _ _ t0
  have z1 := a4.out _ a6.out _ _ t1
  have z2 := a4.out _ a6.out _ _ t2
  have z3 := a4.out _ a6.out _ _ t3
  have z4 := a4.out _ a6.out _ _ t4
  have j5 : w7.frozen? ⟨g, m * 5, none⟩ = false := q0k (q0b b5 a6.out) _
  have j6 : w7.frozen? ⟨g, m * 5 + 1, none⟩ = false := q0k (q0b b5 a6.out) _
  have j7 : w7.frozen? ⟨g, m * 5 + 2, none⟩ = false := q0k (q0b b5 a6.out) _
  have j8 : w7.frozen? ⟨g, m * 5 + 3, none⟩ = false := q0k (q0b b5 a6.out) _
  have j9 : w7.frozen? ⟨g, m * 5 + 4, none⟩ = false := q0k (q0b b5 a6.out) _
  refine hK.out _ _ ⟨(a4.out _ (a6.out) _ _ b4), (a4.out _ (a6.out) _ _ b2), (a4.out _ (a6.out) _ _ a0), (a4.out _ (a6.out) _ _ a1), (a4.out _ (a6.out) _ _ a2), (a4.out _ (a6.out) _ _ a3), (a4.out _ (a6.out) _ _ t0), (a4.out _ (a6.out) _ _ t1), (a4.out _ (a6.out) _ _ t2), (a4.out _ (a6.out) _ _ t3), (a4.out _ (a6.out) _ _ t4)⟩ (fun a7 => ?_)
  clear hK K
  refine nh ?_
  refine ph 16 45 (ba 18 131071) ?_
  refine last_ (i := 17) (N := none) (ba 18 262143) rfl rfl (by kernel_rfl) (by decide) (fun K hK => ?_)
  refine skip_ (w1 := ?_) (by rfl) rfl ?_ ?_
  rotate_left
  ·
   go_simp
   rfl
  refine hK.out _ _ ?_
  clear hK K
  refine q2a (by kernel_rfl) ?_
  have X1 := am (show (St5 w7 g (m * 5) s').heap[g1]? = some (.cells (#[(.string ky), (.string nm), (.slice (some ad) ts.length c1), (.int .i64 is'), (.slice (some ⟨g, 0, none⟩) xs.length c5)] : Array Value) 27 (0, 0)) from q3i _ _ _ _ _ _ _ (q0b B1.out a6.out) h5.out.symm)
  have X2 := am (show (St5 w7 g (m * 5) s').heap[g2]? = some (.cells (#[(.string (⟨#[]⟩ : ByteArray)), (.string (⟨#[]⟩ : ByteArray)), (.slice none 0 0), (.int .i64 0), (.slice none 0 0)] : Array Value) 27 (0, 0)) from q3i _ _ _ _ _ _ _ (q0b B2.out a6.out) h6.out.symm)
  have X5 := am (show Kd.R k51 51 (St5 w7 g (m * 5) s') w.heap.size (fun _ => True) (.slice (some ⟨g, 0, none⟩) xs.length c5) (zs.set m s') from put51 _ _ _ _ _ _ _ (Kd.R_below H5.out a6.out) m (by have := d8.out; have := HZ.out; omega) _)
  have XB := am (show Below w.heap.size w (St5 w7 g (m * 5) s') from q3t _ _ _ _ _ (q0j HB.out a6.out) i2)
  clear B1 B2 H5 HB a4 b4 b2 a0 a1 a2 a3 t0 t1 t2 t3 t4 j0 j1 j2 j3 j4 z0 z1 z2 z3 z4 j5 j6 j7 j8 j9 b5 a6
  have B1 := X1
  have B2 := X2
  have H5 := X5
  have HB := XB
  clear X1 X2 X5 XB
  try clear a7
  unfold St5 at B1 B2 H5 HB
  generalize ((((w7.setCell ⟨g, m * 5, none⟩ (.int .i64 s'.f0)).setCell ⟨g, m * 5 + 1, none⟩ (.int .i64 s'.f1)).setCell ⟨g, m * 5 + 2, none⟩ (.int .i64 s'.f2)).setCell ⟨g, m * 5 + 3, none⟩ (.int .i64 s'.f3)).setCell ⟨g, m * 5 + 4, none⟩ (.string s'.f4) = w8 at *
  have f8 : q0f ((zs.set m s').length = xs.length) := ⟨by rw [List.length_set]; exact HZ.out⟩
  generalize zs.set m s' = z2 at *
  have d9 : q0f (ys.length = xs.length) := ⟨(mendF_len HN.out).trans f8.out⟩
  have f7 := am (show Calls Try.prog 30 #[.agg #[(.string ky), (.string nm), (.slice (some ad) ts.length c1), (.int .i64 is'), (.slice (some ⟨g, 0, none⟩) xs.length c5)]] w8 (fun e w' => ∃ v : Value, e = .returned (.agg #[(.string ky), (.string nm), (.slice (some ad) ts.length c1), (.int .i64 a9), (v)]) ∧ Kd.R k51 51 w' w8.heap.size (fun _ => True) v ys ∧ Below w8.heap.size w8 w') from by rw [← f8.out]; exact mend_calls ky nm (some ad) c1 ts is' (some ⟨g, 0, none⟩) c5 z2 a9 ys w8 (Kd.C_below HT.out HB.out) (Kd.R_reads' H5.out).2.2 HN.out)
  obtain ⟨b0, b1, b2, b3, b4⟩ := ce5 B1.out
  go_upto_region 7 with (go_at_call 30; refine (f7.out).mono ?_; rintro e w9 ⟨v9, rfl, ho, hb⟩; obtain ⟨A9, c9, e9⟩ := Kd.R_slice ho; rw [d9.out] at e9; subst e9; have H9 := am (Kd.R_lower ho (q0p HB.out)); replace B1 := kP B1 hb; replace B2 := kP B2 hb; replace HB := bS HB hb; clear b0 b1 b2 b3 b4 f7 H5 hb; clear ho; obtain ⟨b0, b1, b2, b3, b4⟩ := ce5 B1.out; obtain ⟨h7, h8, h9, i0, c6⟩ := z5 B1.out)
  have X1 := am (show (((((w9.setCell ⟨g1, 0, none⟩ (.string ky)).setCell ⟨g1, 1, none⟩ (.string nm)).setCell ⟨g1, 2, none⟩ (.slice (some ad) ts.length c1)).setCell ⟨g1, 3, none⟩ (.int .i64 a9)).setCell ⟨g1, 4, none⟩ (.slice A9 xs.length c9)).heap[g1]? = some (.cells (#[(.string ky), (.string nm), (.slice (some ad) ts.length c1), (.int .i64 a9), (.slice A9 xs.length c9)] : Array Value) 27 (0, 0)) from pP B1.out)
  have X2 := am (show (((((w9.setCell ⟨g1, 0, none⟩ (.string ky)).setCell ⟨g1, 1, none⟩ (.string nm)).setCell ⟨g1, 2, none⟩ (.slice (some ad) ts.length c1)).setCell ⟨g1, 3, none⟩ (.int .i64 a9)).setCell ⟨g1, 4, none⟩ (.slice A9 xs.length c9)).heap[g2]? = some (.cells (#[(.string (⟨#[]⟩ : ByteArray)), (.string (⟨#[]⟩ : ByteArray)), (.slice none 0 0), (.int .i64 0), (.slice none 0 0)] : Array Value) 27 (0, 0)) from pP B2.out)
  have X5 := am (show Kd.R k51 51 (((((w9.setCell ⟨g1, 0, none⟩ (.string ky)).setCell ⟨g1, 1, none⟩ (.string nm)).setCell ⟨g1, 2, none⟩ (.slice (some ad) ts.length c1)).setCell ⟨g1, 3, none⟩ (.int .i64 a9)).setCell ⟨g1, 4, none⟩ (.slice A9 xs.length c9)) w.heap.size (fun _ => True) (.slice A9 xs.length c9) ys from (Kd.R_set (Kd.R_set (Kd.R_set (Kd.R_set (Kd.R_set H9.out (pP (cs' := #[(.string ky), (.string nm), (.slice (some ad) ts.length c1), (.int .i64 is'), (.slice (some ⟨g, 0, none⟩) xs.length c5)]) B1.out) (by decide) _ _) (pP (cs' := #[(.string ky), (.string nm), (.slice (some ad) ts.length c1), (.int .i64 is'), (.slice (some ⟨g, 0, none⟩) xs.length c5)]) B1.out) (by decide) _ _) (pP (cs' := #[(.string ky), (.string nm), (.slice (some ad) ts.length c1), (.int .i64 is'), (.slice (some ⟨g, 0, none⟩) xs.length c5)]) B1.out) (by decide) _ _) (pP (cs' := #[(.string ky), (.string nm), (.slice (some ad) ts.length c1), (.int .i64 is'), (.slice (some ⟨g, 0, none⟩) xs.length c5)]) B1.out) (by decide) _ _) (pP (cs' := #[(.string ky), (.string nm), (.slice (some ad) ts.length c1), (.int .i64 a9), (.slice (some ⟨g, 0, none⟩) xs.length c5)]) B1.out) (by decide) _ _))
  have XB := am (show Below w.heap.size w (((((w9.setCell ⟨g1, 0, none⟩ (.string ky)).setCell ⟨g1, 1, none⟩ (.string nm)).setCell ⟨g1, 2, none⟩ (.slice (some ad) ts.length c1)).setCell ⟨g1, 3, none⟩ (.int .i64 a9)).setCell ⟨g1, 4, none⟩ (.slice A9 xs.length c9)) from pB HB.out)
  clear B1 B2 H9 HB b0 b1 b2 b3 b4 h7 h8 h9 i0 c6
  have B1 := X1
  have B2 := X2
  have H9 := X5
  have HB := XB
  clear X1 X2 X5 XB
  generalize (((((w9.setCell ⟨g1, 0, none⟩ (.string ky)).setCell ⟨g1, 1, none⟩ (.string nm)).setCell ⟨g1, 2, none⟩ (.slice (some ad) ts.length c1)).setCell ⟨g1, 3, none⟩ (.int .i64 a9)).setCell ⟨g1, 4, none⟩ (.slice A9 xs.length c9)) = e0 at *
  obtain ⟨b0, b1, b2, b3, b4⟩ := ce5 B1.out
  have f5 := am (show Calls Try.prog 36 #[.agg #[(.string ky), (.string nm), (.slice (some ad) ts.length c1), (.int .i64 a9), (.slice A9 xs.length c9)], .int .i64 now] e0 (fun e w' => e = .returned (.int .i64 (q2o u ys (List.finRange ys.length))) ∧ Below e0.heap.size e0 w') from by rw [← d9.out]; exact first_in k u ky nm (some ad) ts.length c1 a9 A9 c9 ys now e0 (Kd.R_reads' H9.out).2.2 (by rw [d9.out]; exact d7.out.2) HU.out)
  go_wp2_with (go_at_call 36; refine (f5.out).mono ?_; rintro e k3 ⟨rfl, hb⟩; replace B1 := kP B1 hb; replace B2 := kP B2 hb; replace H9 := rB H9 hb; replace HB := bS HB hb; clear b0 b1 b2 b3 b4 f5 hb)
  go_roundg q
  case measure => exact Nat.lt_succ_self q
  case rel => exact ⟨_, a9, ys, A9, c9, rfl, ⟨rfl⟩, HQ, d9, ⟨q1c.own H9.out⟩, B1, B2, HB⟩
namespace X
theorem Fw.calls (k : Nat) (a9 b0 : ByteArray) (a0 : Nat → Prop) (a7 : Option Addr) (b2 : Nat) (a3 : List S49) (b1 : Int) (a2 : Nat → Prop) (a8 : Option Addr) (b3 : Nat) (a4 : List S51) (a1 : Int) (r1 r2 : ByteArray) (r3 : List S49) (r4 : Int) (r5 : List S51) (r6 : Int) (w : World) (a5 : Kd.V k49 49 w w.heap.size (fun k_ => a0 k_) (.slice a7 a3.length b2) a3) (a6 : Kd.V k51 51 w w.heap.size (fun k_ => a2 k_) (.slice a8 a4.length b3) a4) (h : Fw.f k a9 b0 a3 b1 a4 a1 = some (r1, r2, r3, r4, r5, r6)) :
  Calls Try.prog 14 #[.agg #[.string a9, .string b0, .slice a7 a3.length b2, .int .i64 b1, .slice a8 a4.length b3], .int .i64 a1] w fun e w' => ∃ b4 b5 : Value, e = .returned (.tuple #[.agg #[.string r1, .string r2, b4, .int .i64 r4, b5], .int .i64 r6]) ∧ Kd.V k49 49 w' w.heap.size (fun k_ => ((a0 k_ ∨ a2 k_) ∨ w.heap.size ≤ k_)) b4 r3 ∧ Kd.V k51 51 w' w.heap.size (fun k_ => ((a0 k_ ∨ a2 k_) ∨ w.heap.size ≤ k_)) b5 r5 ∧ Below w.heap.size w w' := by
 obtain ⟨o, ho, h⟩ := Option.bind_eq_some_iff.1 h
 obtain ⟨_, b7, b6⟩ := Kd.V_reads' a5
 refine (q2j k a9 b0 a7 b2 a3 b1 a8 b3 a4 a1 o w b6 b7 (Kd.V_reads' a6).2.2 ho).mono ?_
 rintro e w' ⟨h1, hb⟩
 refine V_of_run a5 a6 (p := settleR o) ?_ (Option.some.inj h)
 rcases o with _ | p
 ·
  exact ⟨.inr ⟨by decide, h1⟩, hb⟩
 exact ⟨.inl ⟨rfl, h1⟩, hb⟩
end X
set_option maxHeartbeats 4000000 in
set_option maxRecDepth 100000 in
theorem cancel_calls (k : Nat) (ky nm : ByteArray) (A1 : Option Addr) (c1 : Nat) (ts : List S49) (is : Int) (A2 : Option Addr) (c2 : Nat) (xs : List S51) (now : Int) (p : Int × Int × List S51) (w : World) (hT : Kd.C k49 w A1 ts.length ts) (ht : ts.length ≤ c1) (hC : Kd.C k51 w A2 xs.length xs) (h : cancelO k ky nm ts is xs now = some p) :
  Calls Try.prog 24 #[.agg #[(.string ky), (.string nm), (.slice A1 ts.length c1), (.int .i64 is), (.slice A2 xs.length c2)], .int .i64 now] w fun e w' => runPost ky nm A1 c1 ts A2 c2 xs w p e w' := by
 have h2 := Try.underlying27
 have h3 := Try.underlying51
 have h0 := Try.underlying25
 have HC := am hC
 have HT := am hT
 have e4 := am ht
 have HB := am (Below.refl w.heap.size w)
 obtain ⟨so, g3, h_⟩ := Option.bind_eq_some_iff.1 h
 clear h
 have h := h_
 clear h_
 have HO := am g3
 clear hT hC ht g3
 rcases so with _ | ⟨is', ys⟩
 ·
  obtain rfl := Option.some.inj h
  clear h
  go_enter Try.func24, Try.ntmps24
  go_wp2_with (first | ((with_reducible refine gD 2 ?_); refine bz 2 (#[(.string ky), (.string nm), (.slice A1 ts.length c1), (.int .i64 is), (.slice A2 xs.length c2)] : Array Value) 27 HB ?_; clear HB; intro g1 hg d9 hb B1 b5 HB; clear hb hg) | ((with_reducible refine gD 4 ?_); refine bz 4 (#[(.string (⟨#[]⟩ : ByteArray)), (.string (⟨#[]⟩ : ByteArray)), (.slice none 0 0), (.int .i64 0), (.slice none 0 0)] : Array Value) 27 HB ?_; clear HB; intro g2 hg e0 hb B2 b6 HB; have a1 := nP hg B1; have a3 := am a1.out.symm; replace B1 := kP B1 hb; clear hb hg; obtain ⟨b0, b1, b2, b3, b4⟩ := ce5 B1.out) | (go_at_call 14; refine (q2j k ky nm A1 c1 ts is A2 c2 xs now _ _ (Kd.C_below HT.out HB.out) e4.out (Kd.C_below HC.out HB.out) HO.out).mono ?_; rintro e w3 ⟨rfl, hb⟩; replace B1 := kP B1 hb; replace B2 := kP B2 hb; replace HB := bS HB hb; clear b0 b1 b2 b3 b4 hb; obtain ⟨b0, b1, b2, b3, b4⟩ := ce5 B1.out; obtain ⟨b7, b8, b9, c6, a5⟩ := z5 B1.out; obtain ⟨d0, d1, d2, d3, d4⟩ := ce5 B2.out; obtain ⟨e9, f5, f6, f7, f8⟩ := z5 B2.out; have h4 := a1.out; have h5 := a3.out))
  refine bodyPost_ret (q1a rfl _ _ g2 27 (#[(.string (⟨#[]⟩ : ByteArray)), (.string (⟨#[]⟩ : ByteArray)), (.slice none 0 0), (.int .i64 0), (.slice none 0 0)] : Array Value) (0, 0) _ rfl (pP B2.out) Try.underlying27 rfl (by kernel_rfl)) rfl ?_
  exact ⟨.inr ⟨by decide, rfl⟩, pB HB.out⟩
 have h : (if is' ≠ 0 then some (193, 0, []) else some (0, 3, ys.map q0u)) = some p := h
 have e2 := am (settleO_len HO.out)
 go_enter Try.func24, Try.ntmps24
 go_upto_region 2 with (first | ((with_reducible refine gD 2 ?_); refine bz 2 (#[(.string ky), (.string nm), (.slice A1 ts.length c1), (.int .i64 is), (.slice A2 xs.length c2)] : Array Value) 27 HB ?_; clear HB; intro g1 hg d9 hb B1 b5 HB; clear hb hg) | ((with_reducible refine gD 4 ?_); refine bz 4 (#[(.string (⟨#[]⟩ : ByteArray)), (.string (⟨#[]⟩ : ByteArray)), (.slice none 0 0), (.int .i64 0), (.slice none 0 0)] : Array Value) 27 HB ?_; clear HB; intro g2 hg e0 hb B2 b6 HB; have a1 := nP hg B1; have a3 := am a1.out.symm; replace B1 := kP B1 hb; clear hb hg; obtain ⟨b0, b1, b2, b3, b4⟩ := ce5 B1.out) | (go_at_call 14; refine (q2j k ky nm A1 c1 ts is A2 c2 xs now _ _ (Kd.C_below HT.out HB.out) e4.out (Kd.C_below HC.out HB.out) HO.out).mono ?_; rintro e w3 ⟨⟨v3, rfl, ho⟩, hb⟩; obtain ⟨A3, c3, e3⟩ := q1c.slice ho; dsimp only at e3; subst e3; have H3 := am (q1c.base ho (q0p HB.out)); replace B1 := kP B1 hb; replace B2 := kP B2 hb; replace HB := bS HB hb; clear b0 b1 b2 b3 b4 hb; obtain ⟨b0, b1, b2, b3, b4⟩ := ce5 B1.out; obtain ⟨b7, b8, b9, c6, a5⟩ := z5 B1.out; clear ho))
 have X1 := am (show (((((w3.setCell ⟨g1, 0, none⟩ (.string ky)).setCell ⟨g1, 1, none⟩ (.string nm)).setCell ⟨g1, 2, none⟩ (.slice A1 ts.length c1)).setCell ⟨g1, 3, none⟩ (.int .i64 is')).setCell ⟨g1, 4, none⟩ (.slice A3 ys.length c3)).heap[g1]? = some (.cells (#[(.string ky), (.string nm), (.slice A1 ts.length c1), (.int .i64 is'), (.slice A3 ys.length c3)] : Array Value) 27 (0, 0)) from pP B1.out)
 have X2 := am (show (((((w3.setCell ⟨g1, 0, none⟩ (.string ky)).setCell ⟨g1, 1, none⟩ (.string nm)).setCell ⟨g1, 2, none⟩ (.slice A1 ts.length c1)).setCell ⟨g1, 3, none⟩ (.int .i64 is')).setCell ⟨g1, 4, none⟩ (.slice A3 ys.length c3)).heap[g2]? = some (.cells (#[(.string (⟨#[]⟩ : ByteArray)), (.string (⟨#[]⟩ : ByteArray)), (.slice none 0 0), (.int .i64 0), (.slice none 0 0)] : Array Value) 27 (0, 0)) from pP B2.out)
 have X3 := am (show q1c w (((((w3.setCell ⟨g1, 0, none⟩ (.string ky)).setCell ⟨g1, 1, none⟩ (.string nm)).setCell ⟨g1, 2, none⟩ (.slice A1 ts.length c1)).setCell ⟨g1, 3, none⟩ (.int .i64 is')).setCell ⟨g1, 4, none⟩ (.slice A3 ys.length c3)) A2 c2 xs (.slice A3 ys.length c3) ys from (q1c.set (q1c.set (q1c.set (q1c.set (q1c.set H3.out (pP (cs' := #[(.string ky), (.string nm), (.slice A1 ts.length c1), (.int .i64 is), (.slice A2 xs.length c2)]) B1.out) (by decide) _ _) (pP (cs' := #[(.string ky), (.string nm), (.slice A1 ts.length c1), (.int .i64 is), (.slice A2 xs.length c2)]) B1.out) (by decide) _ _) (pP (cs' := #[(.string ky), (.string nm), (.slice A1 ts.length c1), (.int .i64 is), (.slice A2 xs.length c2)]) B1.out) (by decide) _ _) (pP (cs' := #[(.string ky), (.string nm), (.slice A1 ts.length c1), (.int .i64 is), (.slice A2 xs.length c2)]) B1.out) (by decide) _ _) (pP (cs' := #[(.string ky), (.string nm), (.slice A1 ts.length c1), (.int .i64 is'), (.slice A2 xs.length c2)]) B1.out) (by decide) _ _))
 have XB := am (show Below w.heap.size w (((((w3.setCell ⟨g1, 0, none⟩ (.string ky)).setCell ⟨g1, 1, none⟩ (.string nm)).setCell ⟨g1, 2, none⟩ (.slice A1 ts.length c1)).setCell ⟨g1, 3, none⟩ (.int .i64 is')).setCell ⟨g1, 4, none⟩ (.slice A3 ys.length c3)) from pB HB.out)
 clear B1 B2 H3 HB b0 b1 b2 b3 b4 b7 b8 b9 c6 a5
 have B1 := X1
 have B2 := X2
 have H3 := X3
 have HB := XB
 clear X1 X2 X3 XB
 generalize (((((w3.setCell ⟨g1, 0, none⟩ (.string ky)).setCell ⟨g1, 1, none⟩ (.string nm)).setCell ⟨g1, 2, none⟩ (.slice A1 ts.length c1)).setCell ⟨g1, 3, none⟩ (.int .i64 is')).setCell ⟨g1, 4, none⟩ (.slice A3 ys.length c3)) = w4 at *
 obtain ⟨b0, b1, b2, b3, b4⟩ := ce5 B1.out
 have a5 := q0k B1.out 4
 by_cases hi : is' ≠ 0
 ·
  rw [if_pos hi] at h
  obtain rfl := Option.some.inj h
  have i4 : (is' == 0) = false := beq_eq_false_iff_ne.2 hi
  clear h hi
  obtain ⟨d0, d1, d2, d3, d4⟩ := ce5 B2.out
  obtain ⟨e9, f5, f6, f7, f8⟩ := z5 B2.out
  go_wp2
  refine bodyPost_ret (q1a rfl _ _ g2 27 (#[(.string (⟨#[]⟩ : ByteArray)), (.string (⟨#[]⟩ : ByteArray)), (.slice none 0 0), (.int .i64 0), (.slice none 0 0)] : Array Value) (0, 0) _ rfl (pP B2.out) Try.underlying27 rfl (by kernel_rfl)) rfl ?_
  exact ⟨.inr ⟨by decide, rfl⟩, pB HB.out⟩
 rw [if_neg hi] at h
 obtain rfl := Option.some.inj h
 obtain rfl : is' = 0 := by simpa using hi
 clear h hi
 go_upto_region 7 with (go_at_call 37; refine (q4b A3 c3 ys _ (q1c.reads H3.out HC.out HB.out) (by have := e2.out; (try dsimp only at this); omega)).mono ?_; rintro e w5 ⟨v5, rfl, ho, hb⟩; obtain ⟨A5, c5, e5⟩ := Kd.R_slice ho; subst e5; have H5 := am (Kd.R_lower ho (q0p HB.out)); replace B1 := kP B1 hb; replace B2 := kP B2 hb; replace HB := bS HB hb; clear b0 b1 b2 b3 b4 a5 H3 hb; clear ho; obtain ⟨b0, b1, b2, b3, b4⟩ := ce5 B1.out; have a5 := q0k B1.out 4)
 have X1 := am (show (w5.setCell ⟨g1, 4, none⟩ (.slice A5 ys.length c5)).heap[g1]? = some (.cells (#[(.string ky), (.string nm), (.slice A1 ts.length c1), (.int .i64 0), (.slice A5 ys.length c5)] : Array Value) 27 (0, 0)) from pP B1.out)
 have X2 := am (show (w5.setCell ⟨g1, 4, none⟩ (.slice A5 ys.length c5)).heap[g2]? = some (.cells (#[(.string (⟨#[]⟩ : ByteArray)), (.string (⟨#[]⟩ : ByteArray)), (.slice none 0 0), (.int .i64 0), (.slice none 0 0)] : Array Value) 27 (0, 0)) from pP B2.out)
 have X5 := am (Kd.R_set H5.out B1.out (by decide) 4 (.slice A5 ys.length c5))
 have XB := am (show Below w.heap.size w (w5.setCell ⟨g1, 4, none⟩ (.slice A5 ys.length c5)) from pB HB.out)
 clear B1 B2 H5 HB b0 b1 b2 b3 b4 a5
 have B1 := X1
 have B2 := X2
 have H5 := X5
 have HB := XB
 clear X1 X2 X5 XB
 generalize (w5.setCell ⟨g1, 4, none⟩ (.slice A5 ys.length c5)) = w6 at *
 have a8 : w6.cell? ⟨g1, 4, none⟩ = some (.slice A5 ys.length c5) := bc B1.out
 have g5 : q0f (ys.length ≤ 1000000) := ⟨by have := e2.out; (try dsimp only at this); omega⟩
 go_wp2
 go_loopw [32] (fun h6 wr => ∃ q : Nat, h6 = .int .i64 q ∧ q0f (q ≤ ys.length) ∧ q0f (Kd.R k51 51 wr w.heap.size (fun _ => True) (.slice A5 ys.length c5) (mapTo q ys)) ∧ q0f (wr.heap[g1]? = some (.cells (#[(.string ky), (.string nm), (.slice A1 ts.length c1), (.int .i64 0), (.slice A5 ys.length c5)] : Array Value) 27 (0, 0))) ∧ q0f (wr.heap[g2]? = some (.cells (#[(.string (⟨#[]⟩ : ByteArray)), (.string (⟨#[]⟩ : ByteArray)), (.slice none 0 0), (.int .i64 0), (.slice none 0 0)] : Array Value) 27 (0, 0))) ∧ q0f (Below w.heap.size w wr)) (fun i _ => ys.length - (intOf i).toNat)
 case atStart => exact ⟨0, rfl, ⟨Nat.zero_le _⟩, ⟨by rw [mapTo_zero]; exact H5.out⟩, B1, B2, HB⟩
 case round =>
  clear H5 B1 B2 HB a8
  obtain ⟨q, rfl, HQ, H5, B1, B2, HB⟩ := hrel
  by_cases a9 : q < ys.length
  case neg =>
   obtain rfl : q = ys.length := by have := HQ.out; omega
   rw [mapTo_all] at H5
   obtain ⟨b0, b1, b2, b3, b4⟩ := ce5 B1.out
   obtain ⟨b7, b8, b9, c6, a5⟩ := z5 B1.out
   obtain ⟨d0, d1, d2, d3, d4⟩ := ce5 B2.out
   obtain ⟨e9, f5, f6, f7, f8⟩ := z5 B2.out
   have h4 := a1.out
   have h5 := a3.out
   go_wp2
   refine bodyPost_ret (q1a rfl _ _ g2 27 (#[(.string ky), (.string nm), (.slice A1 ts.length c1), (.int .i64 3), (.slice A5 ys.length c5)] : Array Value) (0, 0) _ rfl (pP B2.out) Try.underlying27 rfl (by kernel_rfl)) rfl ?_
   exact ⟨.inl ⟨rfl, _, rfl, q1c.own (Kd.R_set (Kd.R_set (Kd.R_set (Kd.R_set (Kd.R_set (Kd.R_set H5.out B1.out (by decide) 3 (.int .i64 3)) (pP (cs' := #[(.string (⟨#[]⟩ : ByteArray)), (.string (⟨#[]⟩ : ByteArray)), (.slice none 0 0), (.int .i64 0), (.slice none 0 0)]) B2.out) (by decide) _ _) (pP (cs' := #[(.string ky), (.string (⟨#[]⟩ : ByteArray)), (.slice none 0 0), (.int .i64 0), (.slice none 0 0)]) B2.out) (by decide) _ _) (pP (cs' := #[(.string ky), (.string nm), (.slice none 0 0), (.int .i64 0), (.slice none 0 0)]) B2.out) (by decide) _ _) (pP (cs' := #[(.string ky), (.string nm), (.slice A1 ts.length c1), (.int .i64 0), (.slice none 0 0)]) B2.out) (by decide) _ _) (pP (cs' := #[(.string ky), (.string nm), (.slice A1 ts.length c1), (.int .i64 3), (.slice none 0 0)]) B2.out) (by decide) _ _)⟩, pB HB.out⟩
  have EW : wrap64 ((q : Int) + 1) = ((q + 1 : Nat) : Int) := by have := g5.out; unfold wrap64; omega
  obtain ⟨g, i2, e6, g9, i3, d7, f9⟩ := Kd.R_form H5.out (by rw [mapTo_len _ _ (by omega)]; omega)
  injection e6 with e6 e7 e8
  subst e6
  subst e8
  clear e7
  obtain ⟨cc, g8, hM, a6, g0⟩ := Kd.R_elem H5.out z51 (q : Int) (by omega) (by omega)
  rw [Int.toNat_natCast, mapTo_at q ys a9] at hM
  rw [Int.toNat_natCast] at a6 g0
  have d8 := mapTo_set q ys a9
  generalize ys[q] = s at *
  obtain rfl := X.k51_openM hM
  clear hM g8
  have t0 : wr.cell? ⟨g, q * 5, none⟩ = some (.int .i64 s.f0) := a6 0 _ rfl
  have t1 : wr.cell? ⟨g, q * 5 + 1, none⟩ = some (.int .i64 s.f1) := a6 1 _ rfl
  have t2 : wr.cell? ⟨g, q * 5 + 2, none⟩ = some (.int .i64 s.f2) := a6 2 _ rfl
  have t3 : wr.cell? ⟨g, q * 5 + 3, none⟩ = some (.int .i64 s.f3) := a6 3 _ rfl
  have t4 : wr.cell? ⟨g, q * 5 + 4, none⟩ = some (.string s.f4) := a6 4 _ rfl
  have p3 : (q : Int) < (ys.length : Int) := by omega
  clear a6 g0
  go_upto_region 10 with fail
  have B4 := am (q1j wr (.cells #[(.int .i64 s.f0), (.int .i64 s.f1), (.int .i64 s.f2), (.int .i64 s.f3), (.string s.f4)] 51))
  have X1 := am (show (wr.alloc (.cells #[(.int .i64 s.f0), (.int .i64 s.f1), (.int .i64 s.f2), (.int .i64 s.f3), (.string s.f4)] 51)).heap[g1]? = some (.cells (#[(.string ky), (.string nm), (.slice A1 ts.length c1), (.int .i64 0), (.slice (some ⟨g, 0, none⟩) ys.length c5)] : Array Value) 27 (0, 0)) from q0h B1.out _)
  have X2 := am (show (wr.alloc (.cells #[(.int .i64 s.f0), (.int .i64 s.f1), (.int .i64 s.f2), (.int .i64 s.f3), (.string s.f4)] 51)).heap[g2]? = some (.cells (#[(.string (⟨#[]⟩ : ByteArray)), (.string (⟨#[]⟩ : ByteArray)), (.slice none 0 0), (.int .i64 0), (.slice none 0 0)] : Array Value) 27 (0, 0)) from q0h B2.out _)
  have X5 := am (Kd.R_alloc H5.out (.cells #[(.int .i64 s.f0), (.int .i64 s.f1), (.int .i64 s.f2), (.int .i64 s.f3), (.string s.f4)] 51))
  have XB := am (show Below w.heap.size w (wr.alloc (.cells #[(.int .i64 s.f0), (.int .i64 s.f1), (.int .i64 s.f2), (.int .i64 s.f3), (.string s.f4)] 51)) from q0d HB.out _)
  have bA : Below wr.heap.size wr (wr.alloc (.cells #[(.int .i64 s.f0), (.int .i64 s.f1), (.int .i64 s.f2), (.int .i64 s.f3), (.string s.f4)] 51)) := q0d (Below.refl _ _) _
  have y0 := (bA.cell (World.block_lt_of_cell? wr _ t0)).trans t0
  have y1 := (bA.cell (World.block_lt_of_cell? wr _ t1)).trans t1
  have y2 := (bA.cell (World.block_lt_of_cell? wr _ t2)).trans t2
  have y3 := (bA.cell (World.block_lt_of_cell? wr _ t3)).trans t3
  have y4 := (bA.cell (World.block_lt_of_cell? wr _ t4)).trans t4
  have a7 := q0b f9 bA
  have g6 := am (Kd.own_blk (Kd.R_ne H5.out B1.out (by decide)))
  have g7 := am (Kd.own_blk (Kd.R_ne H5.out B2.out (by decide)))
  clear B1 B2 HB H5 t0 t1 t2 t3 t4 bA f9
  have B1 := X1
  have B2 := X2
  have HB := XB
  have H5 := X5
  clear X1 X2 XB X5
  generalize (wr.alloc (.cells #[(.int .i64 s.f0), (.int .i64 s.f1), (.int .i64 s.f2), (.int .i64 s.f3), (.string s.f4)] 51)) = w8 at *
  generalize wr.heap.size = g4 at *
  have a8 : w8.cell? ⟨g1, 4, none⟩ = some (.slice (some ⟨g, 0, none⟩) ys.length c5) := bc B1.out
  have c7 : w8.cell? ⟨g4, 0, none⟩ = some (.int .i64 s.f0) := bc B4.out
  have c8 : w8.cell? ⟨g4, 1, none⟩ = some (.int .i64 s.f1) := bc B4.out
  have c9 : w8.cell? ⟨g4, 2, none⟩ = some (.int .i64 s.f2) := bc B4.out
  have d5 : w8.cell? ⟨g4, 3, none⟩ = some (.int .i64 s.f3) := bc B4.out
  have d6 : w8.cell? ⟨g4, 4, none⟩ = some (.string s.f4) := bc B4.out
  have a0 := am (fun (W : World) (hW : Below w8.heap.size w8 W) (a : Addr) (v : Value) (h : w8.cell? a = some v) => show W.cell? a = some v from (hW.cell (World.block_lt_of_cell? w8 _ h)).trans h)
  have e1 := am (fun (W : World) => X.Ga.calls s.f0 s.f1 s.f2 s.f3 s.f4 _ _ _ _ _ W (cancelS_f s))
  refine q2i (n := 7) (S := fun w' => w'.cell? ⟨g1, 4, none⟩ = some (.slice (some ⟨g, 0, none⟩) ys.length c5) ∧ w'.cell? ⟨g4, 0, none⟩ = some (.int .i64 s.f0) ∧ w'.cell? ⟨g4, 1, none⟩ = some (.int .i64 s.f1) ∧ w'.cell? ⟨g4, 2, none⟩ = some (.int .i64 s.f2) ∧ w'.cell? ⟨g4, 3, none⟩ = some (.int .i64 s.f3) ∧ w'.cell? ⟨g4, 4, none⟩ = some (.string s.f4)) (ds := [6]) (ba 7 0) (by kernel_rfl) rfl rfl ⟨(a0.out _ (q0a (Below.refl _ _)) _ _ a8), (a0.out _ (q0a (Below.refl _ _)) _ _ c7), (a0.out _ (q0a (Below.refl _ _)) _ _ c8), (a0.out _ (q0a (Below.refl _ _)) _ _ c9), (a0.out _ (q0a (Below.refl _ _)) _ _ d5), (a0.out _ (q0a (Below.refl _ _)) _ _ d6)⟩ (fun a4 => ?_)
  refine ph 0 37 (ba 7 1) ?_
  refine ph 2 39 (ba 7 5) ?_
  refine th 1 38 (ba 7 7) a4 ?_
  refine th 3 40 (ba 7 15) a4 ?_
  refine oh 4 41 (ba 7 31) fun K hK => ?_
  refine q2c Try.func64 (by kernel_rfl) rfl #[.agg #[(.int .i64 s.f0), (.int .i64 s.f1), (.int .i64 s.f2), (.int .i64 s.f3), (.string s.f4)]] (by rfl) rfl rfl (by simp only [List.map_toArray, List.map_cons, List.map_nil]; rfl) ?_
  with_reducible refine (e1.out _).mono ?_
  rintro e w9 ⟨rfl, hb⟩
  refine ⟨_, rfl, ?_⟩
  have a2 := am (q0j (q0a (Below.refl w8.heap.size w8)) hb)
  clear hb
  have z0 := a0.out _ a2.out _ _ y0
  have z1 := a0.out _ a2.out _ _ y1
  have z2 := a0.out _ a2.out _ _ y2
  have z3 := a0.out _ a2.out _ _ y3
  have z4 := a0.out _ a2.out _ _ y4
  have h7 : w9.frozen? ⟨g, q * 5, none⟩ = false := q0k (q0b a7 a2.out) _
  have h8 : w9.frozen? ⟨g, q * 5 + 1, none⟩ = false := q0k (q0b a7 a2.out) _
  have h9 : w9.frozen? ⟨g, q * 5 + 2, none⟩ = false := q0k (q0b a7 a2.out) _
  have i0 : w9.frozen? ⟨g, q * 5 + 3, none⟩ = false := q0k (q0b a7 a2.out) _
  have i1 : w9.frozen? ⟨g, q * 5 + 4, none⟩ = false := q0k (q0b a7 a2.out) _
  refine hK.out _ _ ⟨(a0.out _ (a2.out) _ _ a8), (a0.out _ (a2.out) _ _ c7), (a0.out _ (a2.out) _ _ c8), (a0.out _ (a2.out) _ _ c9), (a0.out _ (a2.out) _ _ d5), (a0.out _ (a2.out) _ _ d6)⟩ (fun a4 => ?_)
  clear hK K
  refine nh ?_
  refine ph 5 42 (ba 7 63) ?_
  refine last_ (i := 6) (N := none) (ba 7 127) rfl rfl (by kernel_rfl) (by decide) (fun K hK => ?_)
  refine skip_ (w1 := ?_) (by rfl) rfl ?_ ?_
  rotate_left
  ·
   go_simp
   rfl
  refine hK.out _ _ ?_
  clear hK K
  refine q2a (by kernel_rfl) ?_
  have X1 := am (show (St5 w9 g (q * 5) (q0u s)).heap[g1]? = some (.cells (#[(.string ky), (.string nm), (.slice A1 ts.length c1), (.int .i64 0), (.slice (some ⟨g, 0, none⟩) ys.length c5)] : Array Value) 27 (0, 0)) from q3i _ _ _ _ _ _ _ (q0b B1.out a2.out) g6.out.symm)
  have X2 := am (show (St5 w9 g (q * 5) (q0u s)).heap[g2]? = some (.cells (#[(.string (⟨#[]⟩ : ByteArray)), (.string (⟨#[]⟩ : ByteArray)), (.slice none 0 0), (.int .i64 0), (.slice none 0 0)] : Array Value) 27 (0, 0)) from q3i _ _ _ _ _ _ _ (q0b B2.out a2.out) g7.out.symm)
  have X5 := am (show Kd.R k51 51 (St5 w9 g (q * 5) (q0u s)) w.heap.size (fun _ => True) (.slice (some ⟨g, 0, none⟩) ys.length c5) (mapTo (q + 1) ys) from by rw [← d8]; exact put51 _ _ _ _ _ _ _ (Kd.R_below H5.out a2.out) q a9 _)
  have XB := am (show Below w.heap.size w (St5 w9 g (q * 5) (q0u s)) from q3t _ _ _ _ _ (q0j HB.out a2.out) g9)
  clear B1 B2 H5 HB a0 e1 a8 c7 c8 c9 d5 d6 y0 y1 y2 y3 y4 z0 z1 z2 z3 z4 h7 h8 h9 i0 i1 a7 a2
  try clear a4
  unfold St5 at X1 X2 X5 XB
  generalize ((((w9.setCell ⟨g, q * 5, none⟩ (.int .i64 (q0u s).f0)).setCell ⟨g, q * 5 + 1, none⟩ (.int .i64 (q0u s).f1)).setCell ⟨g, q * 5 + 2, none⟩ (.int .i64 (q0u s).f2)).setCell ⟨g, q * 5 + 3, none⟩ (.int .i64 (q0u s).f3)).setCell ⟨g, q * 5 + 4, none⟩ (.string (q0u s).f4) = i5 at *
  go_wp2
  go_roundw
  case rel => exact ⟨q + 1, by go_num, ⟨by omega⟩, ⟨X5.out⟩, ⟨X1.out⟩, ⟨X2.out⟩, ⟨XB.out⟩⟩
  case measure => exact meas51 _ _ _ EW a9
namespace X
theorem Gd.calls (k : Nat) (a9 b0 : ByteArray) (a0 : Nat → Prop) (a7 : Option Addr) (b2 : Nat) (a3 : List S49) (b1 : Int) (a2 : Nat → Prop) (a8 : Option Addr) (b3 : Nat) (a4 : List S51) (a1 : Int) (r1 r2 : ByteArray) (r3 : List S49) (r4 : Int) (r5 : List S51) (r6 : Int) (w : World) (a5 : Kd.V k49 49 w w.heap.size (fun k_ => a0 k_) (.slice a7 a3.length b2) a3) (a6 : Kd.V k51 51 w w.heap.size (fun k_ => a2 k_) (.slice a8 a4.length b3) a4) (h : Gd.f k a9 b0 a3 b1 a4 a1 = some (r1, r2, r3, r4, r5, r6)) :
  Calls Try.prog 24 #[.agg #[.string a9, .string b0, .slice a7 a3.length b2, .int .i64 b1, .slice a8 a4.length b3], .int .i64 a1] w fun e w' => ∃ b4 b5 : Value, e = .returned (.tuple #[.agg #[.string r1, .string r2, b4, .int .i64 r4, b5], .int .i64 r6]) ∧ Kd.V k49 49 w' w.heap.size (fun k_ => ((a0 k_ ∨ a2 k_) ∨ w.heap.size ≤ k_)) b4 r3 ∧ Kd.V k51 51 w' w.heap.size (fun k_ => ((a0 k_ ∨ a2 k_) ∨ w.heap.size ≤ k_)) b5 r5 ∧ Below w.heap.size w w' := by
 obtain ⟨o, ho, h⟩ := Option.bind_eq_some_iff.1 h
 obtain ⟨_, b7, b6⟩ := Kd.V_reads' a5
 refine (cancel_calls k a9 b0 a7 b2 a3 b1 a8 b3 a4 a1 o w b6 b7 (Kd.V_reads' a6).2.2 ho).mono ?_
 rintro e w' h1
 exact V_of_run a5 a6 h1 (Option.some.inj h)
end X
end Go.Proofs.Ytabmkighhmchmaa
