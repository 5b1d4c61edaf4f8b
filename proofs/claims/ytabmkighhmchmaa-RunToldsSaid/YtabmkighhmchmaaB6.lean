/- Words and walks for the law RunTolds, joined and made small by a program of mine. -/
import Derived.Test.YtabmkighhmchmaaB5
import Derived.Test.YtabmkighhmchmaaB3
import Derived.Test.YtabmkighhmchmaaB2
namespace Go.Proofs.Ytabmkighhmchmaa
open Go.RowKit Go.Shelf Go.YW.PrintWords Go.YW.PrintLast Go.YW.PrintMore Go.YW.Sq
open X (S49 S51 k49 k51 q0d q0a q1r q1i z51)
set_option linter.unusedVariables false
set_option linter.unusedSimpArgs false
attribute [local go_sem] Oper.semAt_some
theorem goesV_ {P : Program} {ops : Array Oper} {Q : Exit → Act → World → Prop} {oi : Oper} {N : Option Tmp} {a : Act} {w : World} {K : Act → World → Prop} {f : FuncId} {fn : Func} {cv : Operand} {lb : Array Value} {aas : Array Operand} {ts : Array TypeId} (hf : P.funcs[f]? = some fn) (a1 : (fn.name == "runtime.NumGoroutine") = false) (hb : fn.body.isSome = true) (args : Array Value)
  (hw : Region.wanted oi (yielded ops a.tmps) = true) (hN : oi.dst = N) (a3 : oi.op = .call { callee := .value cv, args := aas, argTypes := ts }) (a2 : a.eval cv = .func (.func f) #[] lb) (a0 : aas.map a.eval = args)
  (h : Calls P f (args ++ lb) w fun e w' => ∃ v, e = .returned v ∧ K (a.put N v) w') : if Region.wanted oi (yielded ops a.tmps) = true then Oper.wp P oi a w K Q else K (a.put N undef) w := by
 refine call_ f (args ++ lb) hw hN ?_ h
 have he := enters_ hf a1 hb (args ++ lb) w
 unfold execOp
 simp [a3, resolve, Deferred.ofValue, invoke, a2, a0, he]
theorem own_R {A B : World} {row : Option Nat} {base : Nat} {ok : Nat → Prop} {v : Value} {ys : List S51} (h : Kd.R k51 51 A base ok v ys) (hg : A.grownBy B row) (hr : ∀ r, row = some r → ∃ o : Obj, A.heap[r]? = some o ∧ o.isCells = false) : Kd.R k51 51 B base ok v ys :=
 Kd.R_grown2 h rfl hg (fun k e hk => by
  obtain ⟨inner, ho⟩ := Kd.R_own h
  obtain ⟨a0, hc⟩ := own_typed ho k hk.symm
  obtain ⟨ob, h1, h2⟩ := hr k e
  rw [hc] at h1
  cases h1
  cases h2)
theorem results_cs {P : Program} {fn : Func} {p p' : Tmp} {ty ty' : TypeId} (h : fn.results = #[.cell p ty, .cell p' ty']) (tmps : Array Value) (w : World) (g g' : Nat) (t : TypeId) (cs : Array Value) (fr : Nat × Nat) (d : TypeDesc) (v : Value)
  (hp : tmps.getD p undef = .pointer (some ⟨g, 0, none⟩)) (hg : w.heap[g]? = some (.cells cs t fr))
  (hu : P.underlying ty = some d) (hd : (match d with | .struct _ | .array _ _ => true | _ => false) = true) (hi : (P.info? ty).map (·.size) = some cs.size)
  (a0 : tmps.getD p' undef = .pointer (some ⟨g', 0, none⟩)) (hl : (loadVar ty' ⟨g', 0, none⟩).run P w = .ok v w) :
  (results fn tmps).run P w = .ok (.tuple #[.agg cs, v]) w := by
 have h1 : tmps[p]?.getD undef = .pointer (some ⟨g, 0, none⟩) := by simpa using hp
 have h2 : tmps[p']?.getD undef = .pointer (some ⟨g', 0, none⟩) := by simpa using a0
 simp [results, h, h1, h2, asAddr, run_loadVar_row w g t ty cs fr d hg hu hd hi, hl]
theorem load29 (w : World) (g : Nat) (v : Value) (h : w.cell? ⟨g, 0, none⟩ = some v) : (loadVar 29 ⟨g, 0, none⟩).run Try.prog w = .ok v w := by
 have hu := Try.underlying29
 simp [loadVar, hu, h, go_sem]
def isHeld (ys : List S51) (a0 : Int) (x : Fin ys.length) : Prop := (q0a ys (x.val : Int)).f0 = 2 ∧ (q0a ys (x.val : Int)).f3 = a0
theorem heldL_skip (ts : List S49) (is : Int) (ys : List S51) (a0 : Int) (a2 : S49 → S51 → Option (S51 × Int)) : ∀ (a1 l : List (Fin ys.length)), (∀ y ∈ a1, ¬ isHeld ys a0 y) → heldL ts is ys a0 a2 (a1 ++ l) = heldL ts is ys a0 a2 l
 | [], l, _ => rfl
 | x :: a1, l, h => by
  have ih := heldL_skip ts is ys a0 a2 a1 l (fun y hy => h y (List.mem_cons_of_mem _ hy))
  have h1 := h x (List.mem_cons_self ..)
  rw [List.cons_append, heldL]
  by_cases h2 : (q0a ys (x.val : Int)).f0 ≠ 2
  ·
   rw [if_pos h2, ih]
  rw [if_neg h2]
  by_cases h3 : (q0a ys (x.val : Int)).f3 ≠ a0
  ·
   rw [if_pos h3, ih]
  exact absurd ⟨by simpa using h2, by simpa using h3⟩ h1
theorem heldL_here (ts : List S49) (is : Int) (ys : List S51) (a0 : Int) (a1 : S49 → S51 → Option (S51 × Int)) (x : Fin ys.length) (l : List (Fin ys.length)) (h : isHeld ys a0 x) :
  heldL ts is ys a0 a1 (x :: l) = (a1 (q0d ts (x.val : Int)) (q0a ys (x.val : Int))).bind fun p => if p.2 ≠ 0 then some (p.2, 0, []) else (mendF ts is (ys.set x.val p.1)).bind fun q => some (0, q.1, q.2) := by
 rw [heldL, if_neg (by simpa using h.1), if_neg (by simpa using h.2)]
theorem goodHeld_at {ts : List S49} {is : Int} {ys : List S51} {token : Int} {act : S49 → S51 → Option (S51 × Int)} (h : goodHeld ts is ys token act = true) (x : Fin ys.length) (hx : isHeld ys token x) :
  ∃ p, act (q0d ts (x.val : Int)) (q0a ys (x.val : Int)) = some p ∧ (p.2 = 0 → ∃ q, mendF ts is (ys.set x.val p.1) = some q) := by
 have h1 := List.all_eq_true.1 h x (List.mem_finRange x)
 simp only [Bool.or_eq_true, decide_eq_true_eq] at h1
 rcases h1 with (h1 | h1) | h1
 ·
  exact absurd hx.1 h1
 ·
  exact absurd hx.2 h1
 cases ha : act (q0d ts (x.val : Int)) (q0a ys (x.val : Int)) with
 | none => rw [ha] at h1; cases h1
 | some p =>
  rw [ha] at h1
  refine ⟨p, rfl, fun hp => ?_⟩
  simp only [hp, Bool.or_eq_true, decide_eq_true_eq, ne_eq, not_true, false_or] at h1
  exact Option.isSome_iff_exists.1 (by simpa using h1)
theorem heldO_cases {k : Nat} {ky nm : ByteArray} {ts : List S49} {is : Int} {xs : List S51} {now token : Int} {act : S49 → S51 → Option (S51 × Int)} {r : Int × Int × List S51} (h : heldO k ky nm ts is xs now token act = some r) :
  (q3x k ky nm ts is xs now = some none ∧ r = (1, 0, [])) ∨ (∃ is' ys, q3x k ky nm ts is xs now = some (some (is', ys)) ∧ goodHeld ts is' ys token act = true ∧ heldL ts is' ys token act (List.finRange ys.length) = some r) := by
 obtain ⟨so, hs, h⟩ := Option.bind_eq_some_iff.1 h
 rcases so with _ | ⟨is', ys⟩
 ·
  exact .inl ⟨hs, (Option.some.inj h).symm⟩
 refine .inr ⟨is', ys, hs, ?_⟩
 by_cases hg : goodHeld ts is' ys token act = false
 ·
  exact absurd ((if_pos hg).symm.trans h) (by simp)
 exact ⟨by simpa using hg, (if_neg hg).symm.trans h⟩
set_option maxHeartbeats 4000000 in
set_option maxRecDepth 100000 in
theorem q3o (m : Nat) (fm : Func) (hf : Try.prog.funcs[m]? = some fm) (g3 : (fm.name == "runtime.NumGoroutine") = false) (o0 : fm.body.isSome = true) (lb : Array Value) (i8 : S49 → S51 → Option (S51 × Int))
  (k : Nat) (ky nm : ByteArray) (A1 : Option Addr) (c1 : Nat) (ts : List S49) (is : Int) (A2 : Option Addr) (c2 : Nat) (xs : List S51) (now a6 : Int) (r : Int × Int × List S51) (w : World) (hT : Kd.C k49 w A1 ts.length ts) (ht : ts.length ≤ c1) (hC : Kd.C k51 w A2 xs.length xs)
  (i9 : ∀ (t : S49) (s : S51) (p : S51 × Int) (A0 : Option Addr) (c0 : Nat), i8 t s = some p → t.f0.length ≤ c0 → ∀ W, Below w.heap.size w W → Kd.C (Kd.int .i64) W A0 t.f0.length t.f0 → Calls Try.prog m (#[.agg #[.slice A0 t.f0.length c0, .int .i64 t.f1, .int .i64 t.f2, .int .i64 t.f3], .agg #[.int .i64 s.f0, .int .i64 s.f1, .int .i64 s.f2, .int .i64 s.f3, .string s.f4]] ++ lb) W fun e w' => e = .returned (.tuple #[.agg #[(.int .i64 p.1.f0), (.int .i64 p.1.f1), (.int .i64 p.1.f2), (.int .i64 p.1.f3), (.string p.1.f4)], .int .i64 p.2]) ∧ Below W.heap.size W w')
  (h : heldO k ky nm ts is xs now a6 i8 = some r) :
  Calls Try.prog 50 #[.agg #[(.string ky), (.string nm), (.slice A1 ts.length c1), (.int .i64 is), (.slice A2 xs.length c2)], .int .i64 now, .int .i64 a6, .func (.func m) #[] lb] w fun e w' => runPost ky nm A1 c1 ts A2 c2 xs w r e w' := by
 have q8 := Try.underlying27
 have q6 := Try.underlying24
 have q9 := Try.underlying49
 have r0 := Try.underlying51
 have q5 := Try.underlying22
 have q7 := Try.underlying25
 have HC := am hC
 have HT := am hT
 have m3 := am ht
 have l7 := am i9
 have HF := am (And.intro hf (And.intro g3 o0))
 have HB := am (Below.refl w.heap.size w)
 have HH := am (heldO_cases h)
 clear hT hC h ht i9 hf g3 o0
 rcases HH.out with ⟨hs, rfl⟩ | ⟨is', ys, hs, hg, hl⟩
 ·
  have HO := am hs
  clear HH hs
  go_enter Try.func50, Try.ntmps50
  go_wp2_with (first | ((with_reducible refine gD 4 ?_); refine bz 4 (#[(.string ky), (.string nm), (.slice A1 ts.length c1), (.int .i64 is), (.slice A2 xs.length c2)] : Array Value) 27 HB ?_; clear HB; intro g4 hg r7 hb B4 o6 HB; clear hb hg) | ((with_reducible refine gD 6 ?_); refine bz 6 (#[(.int .i64 a6)] : Array Value) 3 HB ?_; clear HB; intro g6 hg r8 hb B6 o7 HB; have d7 := nP hg B4; have j4 := am d7.out.symm; replace B4 := kP B4 hb; clear hb hg) | ((with_reducible refine gD 7 ?_); refine bz 7 (#[(.func (.func m) #[] lb)] : Array Value) 74 HB ?_; clear HB; intro g7 hg r9 hb B7 o8 HB; have d8 := nP hg B4; have j5 := am d8.out.symm; have d9 := nP hg B6; have j6 := am d9.out.symm; replace B4 := kP B4 hb; replace B6 := kP B6 hb; clear hb hg) | ((with_reducible refine gD 8 ?_); refine bz 8 (#[(.string (⟨#[]⟩ : ByteArray)), (.string (⟨#[]⟩ : ByteArray)), (.slice none 0 0), (.int .i64 0), (.slice none 0 0)] : Array Value) 27 HB ?_; clear HB; intro g8 hg s0 hb B8 o9 HB; have c8 := nP hg B4; have f8 := am c8.out.symm; have e0 := nP hg B6; have j7 := am e0.out.symm; have f6 := nP hg B7; have j8 := am f6.out.symm; replace B4 := kP B4 hb; replace B6 := kP B6 hb; replace B7 := kP B7 hb; clear hb hg) | ((with_reducible refine gD 9 ?_); refine bz 9 (#[(.int .i64 0)] : Array Value) 29 HB ?_; clear HB; intro g9 hg s1 hb B9 p3 HB; have d5 := nP hg B4; have f9 := am d5.out.symm; have f5 := nP hg B6; have j9 := am f5.out.symm; have f7 := nP hg B7; have k0 := am f7.out.symm; have d6 := nP hg B8; have g0 := am d6.out.symm; replace B4 := kP B4 hb; replace B6 := kP B6 hb; replace B7 := kP B7 hb; replace B8 := kP B8 hb; clear hb hg; obtain ⟨b0, b1, b2, b3, b4⟩ := ce5 B4.out) | (go_at_call 14; refine (settle_calls k ky nm A1 c1 ts is A2 c2 xs now _ _ (Kd.C_below HT.out HB.out) m3.out (Kd.C_below HC.out HB.out) HO.out).mono ?_; rintro e w3 ⟨rfl, hb⟩; replace B4 := kP B4 hb; replace B6 := kP B6 hb; replace B7 := kP B7 hb; replace B8 := kP B8 hb; replace B9 := kP B9 hb; replace HB := bS HB hb; clear b0 b1 b2 b3 b4 hb; obtain ⟨b0, b1, b2, b3, b4⟩ := ce5 B4.out; obtain ⟨m9, n0, n1, n2, i2⟩ := z5 B4.out; obtain ⟨d0, d1, d2, d3, d4⟩ := ce5 B8.out; obtain ⟨k5, k8, k9, l0, l1⟩ := z5 B8.out; have q0 := ce1 B9.out; have l4 := z1 B9.out; have t8 := c8.out; have u1 := f8.out; have t9 := d5.out; have u3 := f9.out; have u2 := d6.out; have u4 := g0.out))
  refine bodyPost_ret (results_cs rfl _ _ g8 g9 27 (#[(.string (⟨#[]⟩ : ByteArray)), (.string (⟨#[]⟩ : ByteArray)), (.slice none 0 0), (.int .i64 0), (.slice none 0 0)] : Array Value) (0, 0) _ (.int .i64 1) rfl (pP B8.out) Try.underlying27 rfl (by kernel_rfl) rfl (load29 _ _ _ ((q0h (pP (cs' := #[.int .i64 1]) B9.out) 0).trans rfl))) rfl ?_
  exact ⟨.inr ⟨by decide, rfl⟩, pB HB.out⟩
 have HO := am hs
 have HG := am hg
 have l9 := am hl
 have k1 := am (settleO_len hs)
 clear HH hs hg hl
 refine (callsIn_wide (n := 6)).1 ?_
 refine callsIn_of_wp_marks Try.func50 rfl trivial ?_ rfl
 simp only [Try.ntmps50, List.size_toArray, List.length_cons, List.length_nil, Nat.reduceAdd, Nat.reduceSub, Array.replicate_succ, Array.replicate_zero, List.push_toArray, List.append_toArray, List.nil_append, List.cons_append]
 have B4 := am (show ((w).alloc (.cells #[(.string ky), (.string nm), (.slice A1 ts.length c1), (.int .i64 is), (.slice A2 xs.length c2)] 27)).heap[w.heap.size]? = some (.cells (#[(.string ky), (.string nm), (.slice A1 ts.length c1), (.int .i64 is), (.slice A2 xs.length c2)] : Array Value) 27 (0, 0)) from (by have h_ := q1s w (.cells #[(.string ky), (.string nm), (.slice A1 ts.length c1), (.int .i64 is), (.slice A2 xs.length c2)] 27); exact h_))
 have X4 := am (q0i B4.out (.cells #[(.int .i64 a6)] 3))
 clear B4
 have B4 := X4
 clear X4
 have B6 := am (show (((w).alloc (.cells #[(.string ky), (.string nm), (.slice A1 ts.length c1), (.int .i64 is), (.slice A2 xs.length c2)] 27)).alloc (.cells #[(.int .i64 a6)] 3)).heap[w.heap.size + 1]? = some (.cells (#[(.int .i64 a6)] : Array Value) 3 (0, 0)) from (by have h_ := q1s ((w).alloc (.cells #[(.string ky), (.string nm), (.slice A1 ts.length c1), (.int .i64 is), (.slice A2 xs.length c2)] 27)) (.cells #[(.int .i64 a6)] 3); rwa [World.size_alloc] at h_))
 have X4 := am (q0i B4.out (.cells #[(.func (.func m) #[] lb)] 74))
 have X6 := am (q0i B6.out (.cells #[(.func (.func m) #[] lb)] 74))
 clear B4 B6
 have B4 := X4
 have B6 := X6
 clear X4 X6
 have B7 := am (show ((((w).alloc (.cells #[(.string ky), (.string nm), (.slice A1 ts.length c1), (.int .i64 is), (.slice A2 xs.length c2)] 27)).alloc (.cells #[(.int .i64 a6)] 3)).alloc (.cells #[(.func (.func m) #[] lb)] 74)).heap[w.heap.size + 1 + 1]? = some (.cells (#[(.func (.func m) #[] lb)] : Array Value) 74 (0, 0)) from (by have h_ := q1s (((w).alloc (.cells #[(.string ky), (.string nm), (.slice A1 ts.length c1), (.int .i64 is), (.slice A2 xs.length c2)] 27)).alloc (.cells #[(.int .i64 a6)] 3)) (.cells #[(.func (.func m) #[] lb)] 74); rwa [World.size_alloc, World.size_alloc] at h_))
 have X4 := am (q0i B4.out (.cells #[(.string (⟨#[]⟩ : ByteArray)), (.string (⟨#[]⟩ : ByteArray)), (.slice none 0 0), (.int .i64 0), (.slice none 0 0)] 27))
 have X6 := am (q0i B6.out (.cells #[(.string (⟨#[]⟩ : ByteArray)), (.string (⟨#[]⟩ : ByteArray)), (.slice none 0 0), (.int .i64 0), (.slice none 0 0)] 27))
 have X7 := am (q0i B7.out (.cells #[(.string (⟨#[]⟩ : ByteArray)), (.string (⟨#[]⟩ : ByteArray)), (.slice none 0 0), (.int .i64 0), (.slice none 0 0)] 27))
 clear B4 B6 B7
 have B4 := X4
 have B6 := X6
 have B7 := X7
 clear X4 X6 X7
 have B8 := am (show (((((w).alloc (.cells #[(.string ky), (.string nm), (.slice A1 ts.length c1), (.int .i64 is), (.slice A2 xs.length c2)] 27)).alloc (.cells #[(.int .i64 a6)] 3)).alloc (.cells #[(.func (.func m) #[] lb)] 74)).alloc (.cells #[(.string (⟨#[]⟩ : ByteArray)), (.string (⟨#[]⟩ : ByteArray)), (.slice none 0 0), (.int .i64 0), (.slice none 0 0)] 27)).heap[w.heap.size + 1 + 1 + 1]? = some (.cells (#[(.string (⟨#[]⟩ : ByteArray)), (.string (⟨#[]⟩ : ByteArray)), (.slice none 0 0), (.int .i64 0), (.slice none 0 0)] : Array Value) 27 (0, 0)) from (by have h_ := q1s ((((w).alloc (.cells #[(.string ky), (.string nm), (.slice A1 ts.length c1), (.int .i64 is), (.slice A2 xs.length c2)] 27)).alloc (.cells #[(.int .i64 a6)] 3)).alloc (.cells #[(.func (.func m) #[] lb)] 74)) (.cells #[(.string (⟨#[]⟩ : ByteArray)), (.string (⟨#[]⟩ : ByteArray)), (.slice none 0 0), (.int .i64 0), (.slice none 0 0)] 27); rwa [World.size_alloc, World.size_alloc, World.size_alloc] at h_))
 have X4 := am (q0i B4.out (.cells #[(.int .i64 0)] 29))
 have X6 := am (q0i B6.out (.cells #[(.int .i64 0)] 29))
 have X7 := am (q0i B7.out (.cells #[(.int .i64 0)] 29))
 have X8 := am (q0i B8.out (.cells #[(.int .i64 0)] 29))
 clear B4 B6 B7 B8
 have B4 := X4
 have B6 := X6
 have B7 := X7
 have B8 := X8
 clear X4 X6 X7 X8
 have B9 := am (show ((((((w).alloc (.cells #[(.string ky), (.string nm), (.slice A1 ts.length c1), (.int .i64 is), (.slice A2 xs.length c2)] 27)).alloc (.cells #[(.int .i64 a6)] 3)).alloc (.cells #[(.func (.func m) #[] lb)] 74)).alloc (.cells #[(.string (⟨#[]⟩ : ByteArray)), (.string (⟨#[]⟩ : ByteArray)), (.slice none 0 0), (.int .i64 0), (.slice none 0 0)] 27)).alloc (.cells #[(.int .i64 0)] 29)).heap[w.heap.size + 1 + 1 + 1 + 1]? = some (.cells (#[(.int .i64 0)] : Array Value) 29 (0, 0)) from (by have h_ := q1s (((((w).alloc (.cells #[(.string ky), (.string nm), (.slice A1 ts.length c1), (.int .i64 is), (.slice A2 xs.length c2)] 27)).alloc (.cells #[(.int .i64 a6)] 3)).alloc (.cells #[(.func (.func m) #[] lb)] 74)).alloc (.cells #[(.string (⟨#[]⟩ : ByteArray)), (.string (⟨#[]⟩ : ByteArray)), (.slice none 0 0), (.int .i64 0), (.slice none 0 0)] 27)) (.cells #[(.int .i64 0)] 29); rwa [World.size_alloc, World.size_alloc, World.size_alloc, World.size_alloc] at h_))
 have XB := am (show Below w.heap.size w ((((((w).alloc (.cells #[(.string ky), (.string nm), (.slice A1 ts.length c1), (.int .i64 is), (.slice A2 xs.length c2)] 27)).alloc (.cells #[(.int .i64 a6)] 3)).alloc (.cells #[(.func (.func m) #[] lb)] 74)).alloc (.cells #[(.string (⟨#[]⟩ : ByteArray)), (.string (⟨#[]⟩ : ByteArray)), (.slice none 0 0), (.int .i64 0), (.slice none 0 0)] 27)).alloc (.cells #[(.int .i64 0)] 29)) from q0f (q0f (q0f (q0f (q0f (Below.refl _ w) _) _) _) _) _)
 clear HB
 have HB := XB
 clear XB
 gi_wp2_with (first | (refine ⟨trivial, ?_⟩; gi_at_call 14; refine (callsIn_wide.2 (settle_calls k ky nm A1 c1 ts is A2 c2 xs now _ _ (Kd.C_below HT.out HB.out) m3.out (Kd.C_below HC.out HB.out) HO.out)).mono ?_; rintro e w3 ⟨⟨v3, rfl, ho⟩, hb⟩; obtain ⟨A3, c3, e3⟩ := q1k.slice ho; (try dsimp only at e3); subst e3; have H3 := am (q1k.base ho (q0m HB.out)); have X4 := am (q0c B4.out hb); have X6 := am (q0c B6.out hb); have X7 := am (q0c B7.out hb); have X8 := am (q0c B8.out hb); have X9 := am (q0c B9.out hb); have XB := am (q0j HB.out hb); have j3 := am (show w.heap.size + 5 ≤ w3.heap.size by have := hb.size; simp at this; omega); clear HB B4 B6 B7 B8 B9; have B4 := X4; have B6 := X6; have B7 := X7; have B8 := X8; have B9 := X9; have HB := XB; clear XB hb ho X4 X6 X7 X8 X9; obtain ⟨b0, b1, b2, b3, b4⟩ := ce5 B4.out; obtain ⟨m9, n0, n1, n2, i2⟩ := z5 B4.out) | (refine ⟨trivial, ?_⟩; gi_at_call 43; refine (callsIn_wide.2 (each_calls ky nm A1 ts.length c1 is' A3 ys.length c3 _)).mono ?_; rintro e w5 ⟨gb, rfl, hg, j0, hb⟩; have X4 := am (show (((((w3.setCell ⟨w.heap.size, 0, none⟩ (.string ky)).setCell ⟨w.heap.size, 1, none⟩ (.string nm)).setCell ⟨w.heap.size, 2, none⟩ (.slice A1 ts.length c1)).setCell ⟨w.heap.size, 3, none⟩ (.int .i64 is')).setCell ⟨w.heap.size, 4, none⟩ (.slice A3 ys.length c3)).heap[w.heap.size]? = some (.cells (#[(.string ky), (.string nm), (.slice A1 ts.length c1), (.int .i64 is'), (.slice A3 ys.length c3)] : Array Value) 27 (0, 0)) from (q0q (cs := #[(.string ky), (.string nm), (.slice A1 ts.length c1), (.int .i64 is'), (.slice A2 xs.length c2)]) (cs' := #[(.string ky), (.string nm), (.slice A1 ts.length c1), (.int .i64 is'), (.slice A3 ys.length c3)]) (q0q (cs := #[(.string ky), (.string nm), (.slice A1 ts.length c1), (.int .i64 is), (.slice A2 xs.length c2)]) (cs' := #[(.string ky), (.string nm), (.slice A1 ts.length c1), (.int .i64 is'), (.slice A2 xs.length c2)]) (q0q (cs := #[(.string ky), (.string nm), (.slice A1 ts.length c1), (.int .i64 is), (.slice A2 xs.length c2)]) (cs' := #[(.string ky), (.string nm), (.slice A1 ts.length c1), (.int .i64 is), (.slice A2 xs.length c2)]) (q0q (cs := #[(.string ky), (.string nm), (.slice A1 ts.length c1), (.int .i64 is), (.slice A2 xs.length c2)]) (cs' := #[(.string ky), (.string nm), (.slice A1 ts.length c1), (.int .i64 is), (.slice A2 xs.length c2)]) (q0q (cs := #[(.string ky), (.string nm), (.slice A1 ts.length c1), (.int .i64 is), (.slice A2 xs.length c2)]) (cs' := #[(.string ky), (.string nm), (.slice A1 ts.length c1), (.int .i64 is), (.slice A2 xs.length c2)]) B4.out 0 _ rfl) 1 _ rfl) 2 _ rfl) 3 _ rfl) 4 _ rfl)); have X6 := am (show (((((w3.setCell ⟨w.heap.size, 0, none⟩ (.string ky)).setCell ⟨w.heap.size, 1, none⟩ (.string nm)).setCell ⟨w.heap.size, 2, none⟩ (.slice A1 ts.length c1)).setCell ⟨w.heap.size, 3, none⟩ (.int .i64 is')).setCell ⟨w.heap.size, 4, none⟩ (.slice A3 ys.length c3)).heap[w.heap.size + 1]? = some (.cells (#[(.int .i64 a6)] : Array Value) 3 (0, 0)) from (q0o (q0o (q0o (q0o (q0o B6.out (by show w.heap.size + 1 ≠ w.heap.size; omega) _) (by show w.heap.size + 1 ≠ w.heap.size; omega) _) (by show w.heap.size + 1 ≠ w.heap.size; omega) _) (by show w.heap.size + 1 ≠ w.heap.size; omega) _) (by show w.heap.size + 1 ≠ w.heap.size; omega) _)); have X7 := am (show (((((w3.setCell ⟨w.heap.size, 0, none⟩ (.string ky)).setCell ⟨w.heap.size, 1, none⟩ (.string nm)).setCell ⟨w.heap.size, 2, none⟩ (.slice A1 ts.length c1)).setCell ⟨w.heap.size, 3, none⟩ (.int .i64 is')).setCell ⟨w.heap.size, 4, none⟩ (.slice A3 ys.length c3)).heap[w.heap.size + 1 + 1]? = some (.cells (#[(.func (.func m) #[] lb)] : Array Value) 74 (0, 0)) from (q0o (q0o (q0o (q0o (q0o B7.out (by show w.heap.size + 1 + 1 ≠ w.heap.size; omega) _) (by show w.heap.size + 1 + 1 ≠ w.heap.size; omega) _) (by show w.heap.size + 1 + 1 ≠ w.heap.size; omega) _) (by show w.heap.size + 1 + 1 ≠ w.heap.size; omega) _) (by show w.heap.size + 1 + 1 ≠ w.heap.size; omega) _)); have X8 := am (show (((((w3.setCell ⟨w.heap.size, 0, none⟩ (.string ky)).setCell ⟨w.heap.size, 1, none⟩ (.string nm)).setCell ⟨w.heap.size, 2, none⟩ (.slice A1 ts.length c1)).setCell ⟨w.heap.size, 3, none⟩ (.int .i64 is')).setCell ⟨w.heap.size, 4, none⟩ (.slice A3 ys.length c3)).heap[w.heap.size + 1 + 1 + 1]? = some (.cells (#[(.string (⟨#[]⟩ : ByteArray)), (.string (⟨#[]⟩ : ByteArray)), (.slice none 0 0), (.int .i64 0), (.slice none 0 0)] : Array Value) 27 (0, 0)) from (q0o (q0o (q0o (q0o (q0o B8.out (by show w.heap.size + 1 + 1 + 1 ≠ w.heap.size; omega) _) (by show w.heap.size + 1 + 1 + 1 ≠ w.heap.size; omega) _) (by show w.heap.size + 1 + 1 + 1 ≠ w.heap.size; omega) _) (by show w.heap.size + 1 + 1 + 1 ≠ w.heap.size; omega) _) (by show w.heap.size + 1 + 1 + 1 ≠ w.heap.size; omega) _)); have X9 := am (show (((((w3.setCell ⟨w.heap.size, 0, none⟩ (.string ky)).setCell ⟨w.heap.size, 1, none⟩ (.string nm)).setCell ⟨w.heap.size, 2, none⟩ (.slice A1 ts.length c1)).setCell ⟨w.heap.size, 3, none⟩ (.int .i64 is')).setCell ⟨w.heap.size, 4, none⟩ (.slice A3 ys.length c3)).heap[w.heap.size + 1 + 1 + 1 + 1]? = some (.cells (#[(.int .i64 0)] : Array Value) 29 (0, 0)) from (q0o (q0o (q0o (q0o (q0o B9.out (by show w.heap.size + 1 + 1 + 1 + 1 ≠ w.heap.size; omega) _) (by show w.heap.size + 1 + 1 + 1 + 1 ≠ w.heap.size; omega) _) (by show w.heap.size + 1 + 1 + 1 + 1 ≠ w.heap.size; omega) _) (by show w.heap.size + 1 + 1 + 1 + 1 ≠ w.heap.size; omega) _) (by show w.heap.size + 1 + 1 + 1 + 1 ≠ w.heap.size; omega) _)); have X3 := am (show q1k w (((((w3.setCell ⟨w.heap.size, 0, none⟩ (.string ky)).setCell ⟨w.heap.size, 1, none⟩ (.string nm)).setCell ⟨w.heap.size, 2, none⟩ (.slice A1 ts.length c1)).setCell ⟨w.heap.size, 3, none⟩ (.int .i64 is')).setCell ⟨w.heap.size, 4, none⟩ (.slice A3 ys.length c3)) A2 c2 xs (.slice A3 ys.length c3) ys from (q1k.set (q1k.set (q1k.set (q1k.set (q1k.set H3.out B4.out (by decide) _ _) (q0q (cs := #[(.string ky), (.string nm), (.slice A1 ts.length c1), (.int .i64 is), (.slice A2 xs.length c2)]) (cs' := #[(.string ky), (.string nm), (.slice A1 ts.length c1), (.int .i64 is), (.slice A2 xs.length c2)]) B4.out 0 _ rfl) (by decide) _ _) (q0q (cs := #[(.string ky), (.string nm), (.slice A1 ts.length c1), (.int .i64 is), (.slice A2 xs.length c2)]) (cs' := #[(.string ky), (.string nm), (.slice A1 ts.length c1), (.int .i64 is), (.slice A2 xs.length c2)]) (q0q (cs := #[(.string ky), (.string nm), (.slice A1 ts.length c1), (.int .i64 is), (.slice A2 xs.length c2)]) (cs' := #[(.string ky), (.string nm), (.slice A1 ts.length c1), (.int .i64 is), (.slice A2 xs.length c2)]) B4.out 0 _ rfl) 1 _ rfl) (by decide) _ _) (q0q (cs := #[(.string ky), (.string nm), (.slice A1 ts.length c1), (.int .i64 is), (.slice A2 xs.length c2)]) (cs' := #[(.string ky), (.string nm), (.slice A1 ts.length c1), (.int .i64 is), (.slice A2 xs.length c2)]) (q0q (cs := #[(.string ky), (.string nm), (.slice A1 ts.length c1), (.int .i64 is), (.slice A2 xs.length c2)]) (cs' := #[(.string ky), (.string nm), (.slice A1 ts.length c1), (.int .i64 is), (.slice A2 xs.length c2)]) (q0q (cs := #[(.string ky), (.string nm), (.slice A1 ts.length c1), (.int .i64 is), (.slice A2 xs.length c2)]) (cs' := #[(.string ky), (.string nm), (.slice A1 ts.length c1), (.int .i64 is), (.slice A2 xs.length c2)]) B4.out 0 _ rfl) 1 _ rfl) 2 _ rfl) (by decide) _ _) (q0q (cs := #[(.string ky), (.string nm), (.slice A1 ts.length c1), (.int .i64 is), (.slice A2 xs.length c2)]) (cs' := #[(.string ky), (.string nm), (.slice A1 ts.length c1), (.int .i64 is'), (.slice A2 xs.length c2)]) (q0q (cs := #[(.string ky), (.string nm), (.slice A1 ts.length c1), (.int .i64 is), (.slice A2 xs.length c2)]) (cs' := #[(.string ky), (.string nm), (.slice A1 ts.length c1), (.int .i64 is), (.slice A2 xs.length c2)]) (q0q (cs := #[(.string ky), (.string nm), (.slice A1 ts.length c1), (.int .i64 is), (.slice A2 xs.length c2)]) (cs' := #[(.string ky), (.string nm), (.slice A1 ts.length c1), (.int .i64 is), (.slice A2 xs.length c2)]) (q0q (cs := #[(.string ky), (.string nm), (.slice A1 ts.length c1), (.int .i64 is), (.slice A2 xs.length c2)]) (cs' := #[(.string ky), (.string nm), (.slice A1 ts.length c1), (.int .i64 is), (.slice A2 xs.length c2)]) B4.out 0 _ rfl) 1 _ rfl) 2 _ rfl) 3 _ rfl) (by decide) _ _)); have XB := am (show Below w.heap.size w (((((w3.setCell ⟨w.heap.size, 0, none⟩ (.string ky)).setCell ⟨w.heap.size, 1, none⟩ (.string nm)).setCell ⟨w.heap.size, 2, none⟩ (.slice A1 ts.length c1)).setCell ⟨w.heap.size, 3, none⟩ (.int .i64 is')).setCell ⟨w.heap.size, 4, none⟩ (.slice A3 ys.length c3)) from (q0n (q0n (q0n (q0n (q0n HB.out (Nat.le_refl _)) (Nat.le_refl _)) (Nat.le_refl _)) (Nat.le_refl _)) (Nat.le_refl _))); have p5 := am j0; have Y3 := am (q1k.below X3.out hb); have YB := am (q0j XB.out hb); have HS := am (show w.heap.size + 5 ≤ w5.heap.size by have b5 := hb.size; have b6 := j3.out; simp at b5; omega); have Y4 := am (q0c X4.out hb); have Y6 := am (q0c X6.out hb); have Y7 := am (q0c X7.out hb); have Y8 := am (q0c X8.out hb); have Y9 := am (q0c X9.out hb); clear HB H3 X3 XB hg j0 hb B4 X4 B6 X6 B7 X7 B8 X8 B9 X9 b0 b1 b2 b3 b4 m9 n0 n1 n2 i2; have B4 := Y4; have B6 := Y6; have B7 := Y7; have B8 := Y8; have B9 := Y9; have HB := YB; have H3 := Y3; clear YB Y3 Y4 Y6 Y7 Y8 Y9))
 refine wpIn_rangeFunc_ownH (w0 := w5) rfl (by omega) (gf := 78) (lb := #[.pointer (some ⟨gb, 0, none⟩)]) rfl trivial (enters_of Try.func78 (by kernel_rfl) rfl)
  (eachF_stops 5 (by omega) gb ky nm A1 ts.length c1 is' A3 c3 ys w5 w5 (q1k.reads H3.out HC.out HB.out) (by have := k1.out; (try dsimp only at this); omega) (Below.refl _ _) p5.out) belowK_t (belowK_b (Nat.le_refl _)) (Below.refl _ _) (fun _ => rfl)
  (fun g5 W => ((W.heap[w.heap.size]? = some (.cells (#[(.string ky), (.string nm), (.slice A1 ts.length c1), (.int .i64 is'), (.slice A3 ys.length c3)] : Array Value) 27 (0, 0))) ∧ (W.heap[w.heap.size + 1]? = some (.cells (#[(.int .i64 a6)] : Array Value) 3 (0, 0))) ∧ (W.heap[w.heap.size + 1 + 1]? = some (.cells (#[(.func (.func m) #[] lb)] : Array Value) 74 (0, 0))) ∧ (W.heap[w.heap.size + 1 + 1 + 1]? = some (.cells (#[(.string (⟨#[]⟩ : ByteArray)), (.string (⟨#[]⟩ : ByteArray)), (.slice none 0 0), (.int .i64 0), (.slice none 0 0)] : Array Value) 27 (0, 0))) ∧ (W.heap[w.heap.size + 1 + 1 + 1 + 1]? = some (.cells (#[(.int .i64 0)] : Array Value) 29 (0, 0)))) ∧ (Below w.heap.size w W ∧ (Below w5.heap.size w5 W ∧ ∀ y ∈ g5, ¬ isHeld ys a6 y)))
  (fun c g5 W => ∃ c7 x p, g5 = c7 ++ [x] ∧ (∀ y ∈ c7, ¬ isHeld ys a6 y) ∧ isHeld ys a6 x ∧ i8 (q0d ts (x.val : Int)) (q0a ys (x.val : Int)) = some p ∧ c = .ret ∧ Below w.heap.size w W ∧ ((p.2 ≠ 0 ∧ W.heap[w.heap.size + 1 + 1 + 1]? = some (.cells (#[(.string (⟨#[]⟩ : ByteArray)), (.string (⟨#[]⟩ : ByteArray)), (.slice none 0 0), (.int .i64 0), (.slice none 0 0)] : Array Value) 27 (0, 0)) ∧ W.heap[w.heap.size + 1 + 1 + 1 + 1]? = some (.cells (#[(.int .i64 p.2)] : Array Value) 29 (0, 0))) ∨ (p.2 = 0 ∧ ∃ q A c, mendF ts is' (ys.set x.val p.1) = some q ∧ W.heap[w.heap.size + 1 + 1 + 1]? = some (.cells (#[(.string ky), (.string nm), (.slice A1 ts.length c1), (.int .i64 q.1), (.slice A q.2.length c)] : Array Value) 27 (0, 0)) ∧ W.heap[w.heap.size + 1 + 1 + 1 + 1]? = some (.cells (#[(.int .i64 0)] : Array Value) 29 (0, 0)) ∧ Kd.R k51 51 W w.heap.size (fun _ => True) (.slice A q.2.length c) q.2)))
  (OwnFrom.and (Own.from (fun s A B l5 hs hg hr => ⟨q1l hs.1 hg hr, q1l hs.2.1 hg hr, q1l hs.2.2.1 hg hr, q1l hs.2.2.2.1 hg hr, q1l hs.2.2.2.2 hg hr⟩) _) (OwnFrom.and (ownFrom_below (Nat.le_refl _) (by have := HS.out; omega)) (OwnFrom.and (ownFrom_below (Nat.le_refl _) (Nat.le_refl _)) (fun _ _ _ _ hs _ _ => hs))))
  (fun c => fun s A B l5 hs hg hr => by
   obtain ⟨c7, x, p, e1, e2, e3, e4, e5, e6, e7⟩ := hs
   refine ⟨c7, x, p, e1, e2, e3, e4, e5, (ownFrom_below (β := Unit) (Nat.le_refl _) (by have := HS.out; omega)) () A B l5 e6 hg hr, ?_⟩
   have j2 := fun r e => (hr r e).2
   rcases e7 with ⟨h1, h2, h3⟩ | ⟨h1, q, Aq, cq, h2, h3, h4, h5⟩
   ·
    exact .inl ⟨h1, q1l h2 hg j2, q1l h3 hg j2⟩
   exact .inr ⟨h1, q, Aq, cq, h2, q1l h3 hg j2, q1l h4 hg j2, own_R h5 hg j2⟩)
  ⟨⟨B4.out, B6.out, B7.out, B8.out, B9.out⟩, HB.out, Below.refl _ _, fun y hy => by cases hy⟩
  (fun x a' W => ∃ Bx, w5.heap.size ≤ Bx ∧ W.heap[Bx]? = some (.cells #[.int .i64 (q0a ys (x.val : Int)).f0, .int .i64 (q0a ys (x.val : Int)).f1, .int .i64 (q0a ys (x.val : Int)).f2, .int .i64 (q0a ys (x.val : Int)).f3, .string (q0a ys (x.val : Int)).f4] 51 (0, 0)) ∧ a' = { tmps := #[.agg #[(.string ky), (.string nm), (.slice A1 ts.length c1), (.int .i64 is), (.slice A2 xs.length c2)], .int .i64 now, .int .i64 a6, .func (.func m) #[] lb, .pointer (some ⟨w.heap.size, 0, none⟩), undef, .pointer (some ⟨w.heap.size + 1, 0, none⟩), .pointer (some ⟨w.heap.size + 1 + 1, 0, none⟩), .pointer (some ⟨w.heap.size + 1 + 1 + 1, 0, none⟩), .pointer (some ⟨w.heap.size + 1 + 1 + 1 + 1, 0, none⟩), .int .i64 0, .int .i64 ((x.val : Nat) : Int), .pointer (some ⟨Bx, 0, none⟩), undef, undef, .tuple #[.agg #[(.string ky), (.string nm), (.slice A1 ts.length c1), (.int .i64 is'), (.slice A3 ys.length c3)], .int .i64 0], .agg #[(.string ky), (.string nm), (.slice A1 ts.length c1), (.int .i64 is), (.slice A2 xs.length c2)], .int .i64 now, .tuple #[.agg #[(.string ky), (.string nm), (.slice A1 ts.length c1), (.int .i64 is'), (.slice A3 ys.length c3)], .int .i64 0], .agg #[(.string ky), (.string nm), (.slice A1 ts.length c1), (.int .i64 is'), (.slice A3 ys.length c3)], .int .i64 0, .int .i64 0, .bool false, undef, undef, .agg #[(.string ky), (.string nm), (.slice A1 ts.length c1), (.int .i64 is'), (.slice A3 ys.length c3)], .func (.func 78) #[] #[.pointer (some ⟨gb, 0, none⟩)], .int .i64 ((x.val : Nat) : Int), .agg #[.int .i64 (q0a ys (x.val : Int)).f0, .int .i64 (q0a ys (x.val : Int)).f1, .int .i64 (q0a ys (x.val : Int)).f2, .int .i64 (q0a ys (x.val : Int)).f3, .string (q0a ys (x.val : Int)).f4], undef, undef, undef, undef, undef, undef, undef, undef, undef, undef, undef, undef, undef, undef, undef, undef, undef, undef, undef, undef, undef, undef, undef, undef, undef, undef, undef, undef, undef, undef, undef, undef, undef, undef, undef, undef, undef], defers := [] })
  (fun x a' => Own.from (fun s A B l5 hs hg hr => by obtain ⟨Bx, h1, h2, h3⟩ := hs; exact ⟨Bx, h1, q1l h2 hg hr, h3⟩) _) ?assign ?body ?done ?stop
 case assign =>
  rintro l g5 x W K ⟨⟨h4, h6, h7, h8, h9⟩, hB, h0, hN⟩ hK
  have Z4 := am h4
  have Z6 := am h6
  have Z7 := am h7
  have Z8 := am h8
  have Z9 := am h9
  have b9 := am hB
  have a8 := am h0
  have i1 := am hN
  clear h4 h6 h7 h8 h9 hB h0 hN
  dsimp only [encF]
  gi_wp2
  exact hK _ _ ((KeepsOthers.alloc _ _).from _) ((Below.refl _ W).alloc a8.out.size _) ⟨⟨q0i Z4.out _, q0i Z6.out _, q0i Z7.out _, q0i Z8.out _, q0i Z9.out _⟩, q0f b9.out _, q0f a8.out _, i1.out⟩ ⟨W.heap.size, a8.out.size, q1s _ _, rfl⟩
 case body =>
  rintro l g5 x a' W hl hr ⟨⟨h4, h6, h7, h8, h9⟩, hB, h0, hN⟩ ⟨Bx, n4, bX, rfl⟩ q4
  have Z4 := am h4
  have Z6 := am h6
  have Z7 := am h7
  have Z8 := am h8
  have Z9 := am h9
  have b9 := am hB
  have a8 := am h0
  have i1 := am hN
  have HX := am bX
  have s8 := am n4
  clear h4 h6 h7 h8 h9 hB h0 hN bX hr hl q4 n4
  have x0 : W.cell? ⟨Bx, 0, none⟩ = some (.int .i64 (q0a ys (x.val : Int)).f0) := bc HX.out
  have x3 : W.cell? ⟨Bx, 3, none⟩ = some (.int .i64 (q0a ys (x.val : Int)).f3) := bc HX.out
  have k6 : W.cell? ⟨w.heap.size + 1, 0, none⟩ = some (.int .i64 a6) := bc Z6.out
  by_cases q0 : (q0a ys (x.val : Int)).f0 = 2
  case neg =>
   have k2 : q0e (¬ isHeld ys a6 x) := ⟨fun h => q0 h.1⟩
   have E1 := beq_eq_false_iff_ne.2 q0
   gi_wp2
   refine ⟨KeepsFrom.refl _ _, Below.refl _ _, ⟨Z4.out, Z6.out, Z7.out, Z8.out, Z9.out⟩, b9.out, a8.out, fun y hy => ?_⟩
   rcases List.mem_append.1 hy with hy | hy
   ·
    exact i1.out y hy
   obtain rfl := List.mem_singleton.1 hy
   exact k2.out
  by_cases q3 : (q0a ys (x.val : Int)).f3 = a6
  case neg =>
   have k2 : q0e (¬ isHeld ys a6 x) := ⟨fun h => q3 h.2⟩
   have E1 := beq_eq_false_iff_ne.2 q3
   gi_wp2
   refine ⟨KeepsFrom.refl _ _, Below.refl _ _, ⟨Z4.out, Z6.out, Z7.out, Z8.out, Z9.out⟩, b9.out, a8.out, fun y hy => ?_⟩
   rcases List.mem_append.1 hy with hy | hy
   ·
    exact i1.out y hy
   obtain rfl := List.mem_singleton.1 hy
   exact k2.out
  have hx : isHeld ys a6 x := ⟨q0, q3⟩
  obtain ⟨p, hp, hq⟩ := goodHeld_at HG.out x hx
  have m6 := am hx
  have m0 := am q0
  have E1 := beq_iff_eq.2 q0
  have j3 := am q3
  have E3 := beq_iff_eq.2 q3
  have HI := am x.isLt
  have HP := am hp
  have HQ := am hq
  clear hx hp hq
  have x1 : W.cell? ⟨Bx, 1, none⟩ = some (.int .i64 (q0a ys (x.val : Int)).f1) := bc HX.out
  have x2 : W.cell? ⟨Bx, 2, none⟩ = some (.int .i64 (q0a ys (x.val : Int)).f2) := bc HX.out
  have x4 : W.cell? ⟨Bx, 4, none⟩ = some (.string (q0a ys (x.val : Int)).f4) := bc HX.out
  have p0 : (0 : Int) ≤ ((x.val : Nat) : Int) := by omega
  have p1 : ((x.val : Nat) : Int) < (ys.length : Int) := by have := HI.out; omega
  have p2 : ((x.val : Nat) : Int) < (ts.length : Int) := by have h_ := k1.out; have := HI.out; (try dsimp only at h_); omega
  obtain ⟨ad, A0, c0, eA, a0, a1, a2, a3, n7, n6⟩ := q1r (Kd.C_below HT.out b9.out) ((x.val : Nat) : Int) p0 p2
  rw [Int.toNat_natCast] at a0 a1 a2 a3
  have m4 := am n7
  have m2 := am n6
  clear n7 n6
  subst eA
  have k7 : W.cell? ⟨w.heap.size + 1 + 1, 0, none⟩ = some (.func (.func m) #[] lb) := bc Z7.out
  have i4 : W.cell? ⟨w.heap.size, 2, none⟩ = some (.slice (some ad) ts.length c1) := bc Z4.out
  gi_wp2
  clear q0 q3 E1 E3
  generalize o4 : q0a ys ((x.val : Nat) : Int) = s at *
  generalize o5 : q0d ts ((x.val : Nat) : Int) = t at *
  have m1 := am o4
  have m5 := am o5
  clear o4 o5
  have a4 := am (fun (W' : World) (hW : Below W.heap.size W W') (a : Addr) (v : Value) (h : W.cell? a = some v) => show W'.cell? a = some v from (hW.cell (World.block_lt_of_cell? W _ h)).trans h)
  refine q1t (n := 15) (S := fun w' => w'.cell? ⟨w.heap.size + 1 + 1, 0, none⟩ = some (.func (.func m) #[] lb) ∧ w'.cell? ⟨w.heap.size, 2, none⟩ = some (.slice (some ad) ts.length c1) ∧ w'.cell? (ad.add (x.val * 4)) = some (.slice A0 t.f0.length c0) ∧ w'.cell? ⟨(ad.add (x.val * 4)).block, (ad.add (x.val * 4)).off + 1, none⟩ = some (.int .i64 t.f1) ∧ w'.cell? ⟨(ad.add (x.val * 4)).block, (ad.add (x.val * 4)).off + 2, none⟩ = some (.int .i64 t.f2) ∧ w'.cell? ⟨(ad.add (x.val * 4)).block, (ad.add (x.val * 4)).off + 3, none⟩ = some (.int .i64 t.f3) ∧ w'.cell? ⟨Bx, 0, none⟩ = some (.int .i64 s.f0) ∧ w'.cell? ⟨Bx, 1, none⟩ = some (.int .i64 s.f1) ∧ w'.cell? ⟨Bx, 2, none⟩ = some (.int .i64 s.f2) ∧ w'.cell? ⟨Bx, 3, none⟩ = some (.int .i64 s.f3) ∧ w'.cell? ⟨Bx, 4, none⟩ = some (.string s.f4)) (ds := [13]) (ba 15 0) (by kernel_rfl) rfl rfl ⟨(a4.out _ (q0b (Below.refl _ _)) _ _ k7), (a4.out _ (q0b (Below.refl _ _)) _ _ i4), (a4.out _ (q0b (Below.refl _ _)) _ _ a0), (a4.out _ (q0b (Below.refl _ _)) _ _ a1), (a4.out _ (q0b (Below.refl _ _)) _ _ a2), (a4.out _ (q0b (Below.refl _ _)) _ _ a3), (a4.out _ (q0b (Below.refl _ _)) _ _ x0), (a4.out _ (q0b (Below.refl _ _)) _ _ x1), (a4.out _ (q0b (Below.refl _ _)) _ _ x2), (a4.out _ (q0b (Below.refl _ _)) _ _ x3), (a4.out _ (q0b (Below.refl _ _)) _ _ x4)⟩ ?_ (by kernel_rfl) (fun a9 => ?_)
  ·
   rintro ⟨_, _, h_⟩; exact h_
  refine ph 1 40 (ba 15 2) ?_
  refine ph 2 41 (ba 15 6) ?_
  refine ph 4 43 (ba 15 22) ?_
  refine th 0 39 (ba 15 23) a9 ?_
  refine th 3 42 (ba 15 31) a9 ?_
  refine ph 5 44 (ba 15 63) ?_
  refine th 6 45 (ba 15 127) a9 ?_
  refine th 7 46 (ba 15 255) a9 ?_
  refine join_ (σ := Nat) 2 (ba 15 8191) (fun s_ => [(47, .tuple #[.agg #[(.int .i64 p.1.f0), (.int .i64 p.1.f1), (.int .i64 p.1.f2), (.int .i64 p.1.f3), (.string p.1.f4)], .int .i64 p.2]), (38, .tuple #[.agg #[(.int .i64 p.1.f0), (.int .i64 p.1.f1), (.int .i64 p.1.f2), (.int .i64 p.1.f3), (.string p.1.f4)], .int .i64 p.2]), (48, .agg #[(.int .i64 p.1.f0), (.int .i64 p.1.f1), (.int .i64 p.1.f2), (.int .i64 p.1.f3), (.string p.1.f4)]), (49, .int .i64 p.2), (13, .pointer (some ⟨s_, 0, none⟩))]) (fun s_ w' => (w'.cell? ⟨w.heap.size + 1 + 1, 0, none⟩ = some (.func (.func m) #[] lb) ∧ w'.cell? ⟨w.heap.size, 2, none⟩ = some (.slice (some ad) ts.length c1) ∧ w'.cell? (ad.add (x.val * 4)) = some (.slice A0 t.f0.length c0) ∧ w'.cell? ⟨(ad.add (x.val * 4)).block, (ad.add (x.val * 4)).off + 1, none⟩ = some (.int .i64 t.f1) ∧ w'.cell? ⟨(ad.add (x.val * 4)).block, (ad.add (x.val * 4)).off + 2, none⟩ = some (.int .i64 t.f2) ∧ w'.cell? ⟨(ad.add (x.val * 4)).block, (ad.add (x.val * 4)).off + 3, none⟩ = some (.int .i64 t.f3) ∧ w'.cell? ⟨Bx, 0, none⟩ = some (.int .i64 s.f0) ∧ w'.cell? ⟨Bx, 1, none⟩ = some (.int .i64 s.f1) ∧ w'.cell? ⟨Bx, 2, none⟩ = some (.int .i64 s.f2) ∧ w'.cell? ⟨Bx, 3, none⟩ = some (.int .i64 s.f3) ∧ w'.cell? ⟨Bx, 4, none⟩ = some (.string s.f4)) ∧ W.heap.size ≤ s_ ∧ w'.heap[s_]? = some (.cells #[(.int .i64 0), (.int .i64 0), (.int .i64 0), (.int .i64 0), (.string (⟨#[]⟩ : ByteArray))] 51 (0, 0)) ∧ Below W.heap.size W w') ?_ ?_
  rotate_left
  ·
   intro g2
   refine two_ (i := 8) (j := 12) (Ni := some 47) (Nj := some 13) (ba 15 511) (ba 15 4351) rfl rfl rfl rfl (by kernel_rfl) (by decide) (by decide) (fun K hK => ?_) (fun K hK => ?_)
   ·
    skip
    refine goesV_ HF.out.1 HF.out.2.1 HF.out.2.2 #[.agg #[.slice A0 t.f0.length c0, .int .i64 t.f1, .int .i64 t.f2, .int .i64 t.f3], .agg #[.int .i64 s.f0, .int .i64 s.f1, .int .i64 s.f2, .int .i64 s.f3, .string s.f4]] (by rfl) rfl rfl (by rfl) (by simp only [List.map_toArray, List.map_cons, List.map_nil, m0.out, j3.out]; rfl) ?_
    with_reducible refine (l7.out t s p A0 c0 HP.out m4.out _ (by (with_reducible repeat (first | apply q0f | apply q0b)); exact b9.out) (Kd.C_below m2.out (by (with_reducible repeat (first | apply q0f | apply q0b)); exact Below.refl W.heap.size W))).mono ?_
    rintro e w7 ⟨rfl, hb⟩
    refine ⟨_, rfl, ?_⟩
    have a7 := am (q0j (by (with_reducible repeat (first | apply q0f | apply q0b)); exact Below.refl W.heap.size W) hb)
    clear hb
    refine hK.out _ _ ⟨(a4.out _ (a7.out) _ _ k7), (a4.out _ (a7.out) _ _ i4), (a4.out _ (a7.out) _ _ a0), (a4.out _ (a7.out) _ _ a1), (a4.out _ (a7.out) _ _ a2), (a4.out _ (a7.out) _ _ a3), (a4.out _ (a7.out) _ _ x0), (a4.out _ (a7.out) _ _ x1), (a4.out _ (a7.out) _ _ x2), (a4.out _ (a7.out) _ _ x3), (a4.out _ (a7.out) _ _ x4)⟩ (fun a9 => ?_)
    clear hK K
    refine nh ?_
    refine ph 9 38 (ba 15 1023) ?_
    refine ph 10 48 (ba 15 2047) ?_
    refine ph 11 49 (ba 15 4095) ?_
    refine oh 12 13 (ba 15 8191) fun K hK => ?_
    refine value_ (w1 := ?_) (v := ?_) (by rfl) rfl ?_ ?_
    rotate_left 2
    ·
     go_simp
     constructor
     ·
      rfl
     rfl
    refine hK.out _ _ ⟨(a4.out _ (q0f (a7.out) _) _ _ k7), (a4.out _ (q0f (a7.out) _) _ _ i4), (a4.out _ (q0f (a7.out) _) _ _ a0), (a4.out _ (q0f (a7.out) _) _ _ a1), (a4.out _ (q0f (a7.out) _) _ _ a2), (a4.out _ (q0f (a7.out) _) _ _ a3), (a4.out _ (q0f (a7.out) _) _ _ x0), (a4.out _ (q0f (a7.out) _) _ _ x1), (a4.out _ (q0f (a7.out) _) _ _ x2), (a4.out _ (q0f (a7.out) _) _ _ x3), (a4.out _ (q0f (a7.out) _) _ _ x4)⟩ (fun a9 => ?_)
    clear hK K
    refine nh ?_
    exact norm_ (by simp only [putAll, Act.put, List.setIfInBounds_toArray, List.set_cons_zero, List.set_cons_succ]) (g2 w7.heap.size _ ⟨a9, a7.out.size, q1s w7 (.cells #[(.int .i64 0), (.int .i64 0), (.int .i64 0), (.int .i64 0), (.string (⟨#[]⟩ : ByteArray))] 51), q0f a7.out _⟩)
   skip
   refine value_ (w1 := ?_) (v := ?_) (by rfl) rfl ?_ ?_
   rotate_left 2
   ·
    go_simp
    constructor
    ·
     rfl
    rfl
   refine hK.out _ _ ⟨(a4.out _ (q0f (q0b (Below.refl _ _)) _) _ _ k7), (a4.out _ (q0f (q0b (Below.refl _ _)) _) _ _ i4), (a4.out _ (q0f (q0b (Below.refl _ _)) _) _ _ a0), (a4.out _ (q0f (q0b (Below.refl _ _)) _) _ _ a1), (a4.out _ (q0f (q0b (Below.refl _ _)) _) _ _ a2), (a4.out _ (q0f (q0b (Below.refl _ _)) _) _ _ a3), (a4.out _ (q0f (q0b (Below.refl _ _)) _) _ _ x0), (a4.out _ (q0f (q0b (Below.refl _ _)) _) _ _ x1), (a4.out _ (q0f (q0b (Below.refl _ _)) _) _ _ x2), (a4.out _ (q0f (q0b (Below.refl _ _)) _) _ _ x3), (a4.out _ (q0f (q0b (Below.refl _ _)) _) _ _ x4)⟩ (fun a9 => ?_)
   clear hK K
   refine nh ?_
   refine oh 8 47 (ba 15 4607) fun K hK => ?_
   refine goesV_ HF.out.1 HF.out.2.1 HF.out.2.2 #[.agg #[.slice A0 t.f0.length c0, .int .i64 t.f1, .int .i64 t.f2, .int .i64 t.f3], .agg #[.int .i64 s.f0, .int .i64 s.f1, .int .i64 s.f2, .int .i64 s.f3, .string s.f4]] (by rfl) rfl rfl (by rfl) (by simp only [List.map_toArray, List.map_cons, List.map_nil, m0.out, j3.out]; rfl) ?_
   with_reducible refine (l7.out t s p A0 c0 HP.out m4.out _ (by (with_reducible repeat (first | apply q0f | apply q0b)); exact b9.out) (Kd.C_below m2.out (by (with_reducible repeat (first | apply q0f | apply q0b)); exact Below.refl W.heap.size W))).mono ?_
   rintro e w7 ⟨rfl, hb⟩
   refine ⟨_, rfl, ?_⟩
   have a7 := am (q0j (by (with_reducible repeat (first | apply q0f | apply q0b)); exact Below.refl W.heap.size W) hb)
   have p6 := am (q0c (show (W.alloc (.cells #[(.int .i64 0), (.int .i64 0), (.int .i64 0), (.int .i64 0), (.string (⟨#[]⟩ : ByteArray))] 51)).drew.heap[W.heap.size]? = some (.cells #[(.int .i64 0), (.int .i64 0), (.int .i64 0), (.int .i64 0), (.string (⟨#[]⟩ : ByteArray))] 51 (0, 0)) from q0g (q1s W (.cells #[(.int .i64 0), (.int .i64 0), (.int .i64 0), (.int .i64 0), (.string (⟨#[]⟩ : ByteArray))] 51))) hb)
   clear hb
   refine hK.out _ _ ⟨(a4.out _ (a7.out) _ _ k7), (a4.out _ (a7.out) _ _ i4), (a4.out _ (a7.out) _ _ a0), (a4.out _ (a7.out) _ _ a1), (a4.out _ (a7.out) _ _ a2), (a4.out _ (a7.out) _ _ a3), (a4.out _ (a7.out) _ _ x0), (a4.out _ (a7.out) _ _ x1), (a4.out _ (a7.out) _ _ x2), (a4.out _ (a7.out) _ _ x3), (a4.out _ (a7.out) _ _ x4)⟩ (fun a9 => ?_)
   clear hK K
   refine nh ?_
   refine ph 9 38 (ba 15 5119) ?_
   refine ph 10 48 (ba 15 6143) ?_
   refine ph 11 49 (ba 15 8191) ?_
   exact norm_ (by simp only [putAll, Act.put, List.setIfInBounds_toArray, List.set_cons_zero, List.set_cons_succ]) (g2 W.heap.size _ ⟨a9, Nat.le_refl _, p6.out, a7.out⟩)
  rintro a5 w7 ⟨n5, o2, n8, n9⟩
  have b7 := am o2
  have BP := am n8
  have a7 := am n9
  have a9 := n5
  clear o2 n8 n9 n5
  have y0 : w7.cell? ⟨a5, 0, none⟩ = some (.int .i64 0) := bc BP.out
  have y1 : w7.cell? ⟨a5, 1, none⟩ = some (.int .i64 0) := bc BP.out
  have y2 : w7.cell? ⟨a5, 2, none⟩ = some (.int .i64 0) := bc BP.out
  have y3 : w7.cell? ⟨a5, 3, none⟩ = some (.int .i64 0) := bc BP.out
  have y4 : w7.cell? ⟨a5, 4, none⟩ = some (.string (⟨#[]⟩ : ByteArray)) := bc BP.out
  have s3 := q0k BP.out 0
  have s4 := q0k BP.out 1
  have s5 := q0k BP.out 2
  have s6 := q0k BP.out 3
  have s7 := q0k BP.out 4
  refine norm_ (a' := ?_) ?_ ?_
  rotate_left
  ·
   simp only [putAll, Act.put, List.setIfInBounds_toArray, List.set_cons_zero, List.set_cons_succ]
   rfl
  refine last_ (i := 13) (N := none) (ba 15 16383) rfl rfl (by kernel_rfl) (by decide) (fun K hK => ?_)
  refine skip_ (w1 := ?_) (by rfl) rfl ?_ ?_
  rotate_left
  ·
   go_simp
   rfl
  refine hK.out _ _ ?_
  clear hK K
  refine ph 14 14 (ba 15 32767) ?_
  refine q2c (by kernel_rfl) ?_
  have X4 := am (show (((((w7.setCell ⟨a5, 0, none⟩ (.int .i64 p.1.f0)).setCell ⟨a5, 1, none⟩ (.int .i64 p.1.f1)).setCell ⟨a5, 2, none⟩ (.int .i64 p.1.f2)).setCell ⟨a5, 3, none⟩ (.int .i64 p.1.f3)).setCell ⟨a5, 4, none⟩ (.string p.1.f4)).heap[w.heap.size]? = some (.cells (#[(.string ky), (.string nm), (.slice (some ad) ts.length c1), (.int .i64 is'), (.slice A3 ys.length c3)] : Array Value) 27 (0, 0)) from (q0o (q0o (q0o (q0o (q0o (q0c Z4.out a7.out) (by have b5 := b7.out; have b6 := a8.out.size; have b8 := HS.out; show w.heap.size ≠ a5; omega) _) (by have b5 := b7.out; have b6 := a8.out.size; have b8 := HS.out; show w.heap.size ≠ a5; omega) _) (by have b5 := b7.out; have b6 := a8.out.size; have b8 := HS.out; show w.heap.size ≠ a5; omega) _) (by have b5 := b7.out; have b6 := a8.out.size; have b8 := HS.out; show w.heap.size ≠ a5; omega) _) (by have b5 := b7.out; have b6 := a8.out.size; have b8 := HS.out; show w.heap.size ≠ a5; omega) _))
  have X6 := am (show (((((w7.setCell ⟨a5, 0, none⟩ (.int .i64 p.1.f0)).setCell ⟨a5, 1, none⟩ (.int .i64 p.1.f1)).setCell ⟨a5, 2, none⟩ (.int .i64 p.1.f2)).setCell ⟨a5, 3, none⟩ (.int .i64 p.1.f3)).setCell ⟨a5, 4, none⟩ (.string p.1.f4)).heap[w.heap.size + 1]? = some (.cells (#[(.int .i64 a6)] : Array Value) 3 (0, 0)) from (q0o (q0o (q0o (q0o (q0o (q0c Z6.out a7.out) (by have b5 := b7.out; have b6 := a8.out.size; have b8 := HS.out; show w.heap.size + 1 ≠ a5; omega) _) (by have b5 := b7.out; have b6 := a8.out.size; have b8 := HS.out; show w.heap.size + 1 ≠ a5; omega) _) (by have b5 := b7.out; have b6 := a8.out.size; have b8 := HS.out; show w.heap.size + 1 ≠ a5; omega) _) (by have b5 := b7.out; have b6 := a8.out.size; have b8 := HS.out; show w.heap.size + 1 ≠ a5; omega) _) (by have b5 := b7.out; have b6 := a8.out.size; have b8 := HS.out; show w.heap.size + 1 ≠ a5; omega) _))
  have X7 := am (show (((((w7.setCell ⟨a5, 0, none⟩ (.int .i64 p.1.f0)).setCell ⟨a5, 1, none⟩ (.int .i64 p.1.f1)).setCell ⟨a5, 2, none⟩ (.int .i64 p.1.f2)).setCell ⟨a5, 3, none⟩ (.int .i64 p.1.f3)).setCell ⟨a5, 4, none⟩ (.string p.1.f4)).heap[w.heap.size + 1 + 1]? = some (.cells (#[(.func (.func m) #[] lb)] : Array Value) 74 (0, 0)) from (q0o (q0o (q0o (q0o (q0o (q0c Z7.out a7.out) (by have b5 := b7.out; have b6 := a8.out.size; have b8 := HS.out; show w.heap.size + 1 + 1 ≠ a5; omega) _) (by have b5 := b7.out; have b6 := a8.out.size; have b8 := HS.out; show w.heap.size + 1 + 1 ≠ a5; omega) _) (by have b5 := b7.out; have b6 := a8.out.size; have b8 := HS.out; show w.heap.size + 1 + 1 ≠ a5; omega) _) (by have b5 := b7.out; have b6 := a8.out.size; have b8 := HS.out; show w.heap.size + 1 + 1 ≠ a5; omega) _) (by have b5 := b7.out; have b6 := a8.out.size; have b8 := HS.out; show w.heap.size + 1 + 1 ≠ a5; omega) _))
  have X8 := am (show (((((w7.setCell ⟨a5, 0, none⟩ (.int .i64 p.1.f0)).setCell ⟨a5, 1, none⟩ (.int .i64 p.1.f1)).setCell ⟨a5, 2, none⟩ (.int .i64 p.1.f2)).setCell ⟨a5, 3, none⟩ (.int .i64 p.1.f3)).setCell ⟨a5, 4, none⟩ (.string p.1.f4)).heap[w.heap.size + 1 + 1 + 1]? = some (.cells (#[(.string (⟨#[]⟩ : ByteArray)), (.string (⟨#[]⟩ : ByteArray)), (.slice none 0 0), (.int .i64 0), (.slice none 0 0)] : Array Value) 27 (0, 0)) from (q0o (q0o (q0o (q0o (q0o (q0c Z8.out a7.out) (by have b5 := b7.out; have b6 := a8.out.size; have b8 := HS.out; show w.heap.size + 1 + 1 + 1 ≠ a5; omega) _) (by have b5 := b7.out; have b6 := a8.out.size; have b8 := HS.out; show w.heap.size + 1 + 1 + 1 ≠ a5; omega) _) (by have b5 := b7.out; have b6 := a8.out.size; have b8 := HS.out; show w.heap.size + 1 + 1 + 1 ≠ a5; omega) _) (by have b5 := b7.out; have b6 := a8.out.size; have b8 := HS.out; show w.heap.size + 1 + 1 + 1 ≠ a5; omega) _) (by have b5 := b7.out; have b6 := a8.out.size; have b8 := HS.out; show w.heap.size + 1 + 1 + 1 ≠ a5; omega) _))
  have X9 := am (show (((((w7.setCell ⟨a5, 0, none⟩ (.int .i64 p.1.f0)).setCell ⟨a5, 1, none⟩ (.int .i64 p.1.f1)).setCell ⟨a5, 2, none⟩ (.int .i64 p.1.f2)).setCell ⟨a5, 3, none⟩ (.int .i64 p.1.f3)).setCell ⟨a5, 4, none⟩ (.string p.1.f4)).heap[w.heap.size + 1 + 1 + 1 + 1]? = some (.cells (#[(.int .i64 0)] : Array Value) 29 (0, 0)) from (q0o (q0o (q0o (q0o (q0o (q0c Z9.out a7.out) (by have b5 := b7.out; have b6 := a8.out.size; have b8 := HS.out; show w.heap.size + 1 + 1 + 1 + 1 ≠ a5; omega) _) (by have b5 := b7.out; have b6 := a8.out.size; have b8 := HS.out; show w.heap.size + 1 + 1 + 1 + 1 ≠ a5; omega) _) (by have b5 := b7.out; have b6 := a8.out.size; have b8 := HS.out; show w.heap.size + 1 + 1 + 1 + 1 ≠ a5; omega) _) (by have b5 := b7.out; have b6 := a8.out.size; have b8 := HS.out; show w.heap.size + 1 + 1 + 1 + 1 ≠ a5; omega) _) (by have b5 := b7.out; have b6 := a8.out.size; have b8 := HS.out; show w.heap.size + 1 + 1 + 1 + 1 ≠ a5; omega) _))
  have XP := am (show (((((w7.setCell ⟨a5, 0, none⟩ (.int .i64 p.1.f0)).setCell ⟨a5, 1, none⟩ (.int .i64 p.1.f1)).setCell ⟨a5, 2, none⟩ (.int .i64 p.1.f2)).setCell ⟨a5, 3, none⟩ (.int .i64 p.1.f3)).setCell ⟨a5, 4, none⟩ (.string p.1.f4)).heap[a5]? = some (.cells #[(.int .i64 p.1.f0), (.int .i64 p.1.f1), (.int .i64 p.1.f2), (.int .i64 p.1.f3), (.string p.1.f4)] 51 (0, 0)) from (q0q (cs := #[(.int .i64 p.1.f0), (.int .i64 p.1.f1), (.int .i64 p.1.f2), (.int .i64 p.1.f3), (.string (⟨#[]⟩ : ByteArray))]) (cs' := #[(.int .i64 p.1.f0), (.int .i64 p.1.f1), (.int .i64 p.1.f2), (.int .i64 p.1.f3), (.string p.1.f4)]) (q0q (cs := #[(.int .i64 p.1.f0), (.int .i64 p.1.f1), (.int .i64 p.1.f2), (.int .i64 0), (.string (⟨#[]⟩ : ByteArray))]) (cs' := #[(.int .i64 p.1.f0), (.int .i64 p.1.f1), (.int .i64 p.1.f2), (.int .i64 p.1.f3), (.string (⟨#[]⟩ : ByteArray))]) (q0q (cs := #[(.int .i64 p.1.f0), (.int .i64 p.1.f1), (.int .i64 0), (.int .i64 0), (.string (⟨#[]⟩ : ByteArray))]) (cs' := #[(.int .i64 p.1.f0), (.int .i64 p.1.f1), (.int .i64 p.1.f2), (.int .i64 0), (.string (⟨#[]⟩ : ByteArray))]) (q0q (cs := #[(.int .i64 p.1.f0), (.int .i64 0), (.int .i64 0), (.int .i64 0), (.string (⟨#[]⟩ : ByteArray))]) (cs' := #[(.int .i64 p.1.f0), (.int .i64 p.1.f1), (.int .i64 0), (.int .i64 0), (.string (⟨#[]⟩ : ByteArray))]) (q0q (cs := #[(.int .i64 0), (.int .i64 0), (.int .i64 0), (.int .i64 0), (.string (⟨#[]⟩ : ByteArray))]) (cs' := #[(.int .i64 p.1.f0), (.int .i64 0), (.int .i64 0), (.int .i64 0), (.string (⟨#[]⟩ : ByteArray))]) BP.out 0 _ rfl) 1 _ rfl) 2 _ rfl) 3 _ rfl) 4 _ rfl))
  have c6 := am (show w5.heap.size ≤ a5 from Nat.le_trans a8.out.size b7.out)
  have g1 := am (show Below w.heap.size w (((((w7.setCell ⟨a5, 0, none⟩ (.int .i64 p.1.f0)).setCell ⟨a5, 1, none⟩ (.int .i64 p.1.f1)).setCell ⟨a5, 2, none⟩ (.int .i64 p.1.f2)).setCell ⟨a5, 3, none⟩ (.int .i64 p.1.f3)).setCell ⟨a5, 4, none⟩ (.string p.1.f4)) from (q0n (q0n (q0n (q0n (q0n (q0j b9.out a7.out) (by have b5 := c6.out; have b6 := HS.out; show w.heap.size ≤ a5; omega)) (by have b5 := c6.out; have b6 := HS.out; show w.heap.size ≤ a5; omega)) (by have b5 := c6.out; have b6 := HS.out; show w.heap.size ≤ a5; omega)) (by have b5 := c6.out; have b6 := HS.out; show w.heap.size ≤ a5; omega)) (by have b5 := c6.out; have b6 := HS.out; show w.heap.size ≤ a5; omega)))
  have i6 := am (show Below w5.heap.size w5 (((((w7.setCell ⟨a5, 0, none⟩ (.int .i64 p.1.f0)).setCell ⟨a5, 1, none⟩ (.int .i64 p.1.f1)).setCell ⟨a5, 2, none⟩ (.int .i64 p.1.f2)).setCell ⟨a5, 3, none⟩ (.int .i64 p.1.f3)).setCell ⟨a5, 4, none⟩ (.string p.1.f4)) from (q0n (q0n (q0n (q0n (q0n (q0j a8.out a7.out) c6.out) c6.out) c6.out) c6.out) c6.out))
  have KF := am (show KeepsFrom w5.heap.size W (((((w7.setCell ⟨a5, 0, none⟩ (.int .i64 p.1.f0)).setCell ⟨a5, 1, none⟩ (.int .i64 p.1.f1)).setCell ⟨a5, 2, none⟩ (.int .i64 p.1.f2)).setCell ⟨a5, 3, none⟩ (.int .i64 p.1.f3)).setCell ⟨a5, 4, none⟩ (.string p.1.f4)) from (KeepsFrom.trans (KeepsFrom.trans (KeepsFrom.trans (KeepsFrom.trans (KeepsFrom.trans ((q1b a7.out).from w5.heap.size) ((KeepsOthers.setCell _ _ _).from _)) ((KeepsOthers.setCell _ _ _).from _)) ((KeepsOthers.setCell _ _ _).from _)) ((KeepsOthers.setCell _ _ _).from _)) ((KeepsOthers.setCell _ _ _).from _)))
  clear a9 a4 a7 b7 BP HX k7 i4 k6 x0 x1 x2 x3 x4 a0 a1 a2 a3 y0 y1 y2 y3 y4 s3 s4 s5 s6 s7 b9 a8 Z4 Z6 Z7 Z8 Z9
  have Z4 := X4
  have Z6 := X6
  have Z7 := X7
  have Z8 := X8
  have Z9 := X9
  have b9 := g1
  have a8 := i6
  clear g1 i6 X4 X6 X7 X8 X9
  generalize (((((w7.setCell ⟨a5, 0, none⟩ (.int .i64 p.1.f0)).setCell ⟨a5, 1, none⟩ (.int .i64 p.1.f1)).setCell ⟨a5, 2, none⟩ (.int .i64 p.1.f2)).setCell ⟨a5, 3, none⟩ (.int .i64 p.1.f3)).setCell ⟨a5, 4, none⟩ (.string p.1.f4)) = w8 at *
  by_cases q2 : p.2 = 0
  case neg =>
   have k3 := am q2
   have E2 := beq_eq_false_iff_ne.2 q2
   clear q2
   obtain ⟨d0, d1, d2, d3, d4⟩ := ce5 Z8.out
   obtain ⟨k5, k8, k9, l0, l1⟩ := z5 Z8.out
   have q0 := ce1 Z9.out
   have l4 := z1 Z9.out
   gi_wp2
   exact ⟨(by repeat (first | exact KF.out | refine KeepsFrom.trans ?_ ((KeepsOthers.setCell _ _ _).from _))), g5, x, p, rfl, i1.out, m6.out, (by rw [m1.out, m5.out]; exact HP.out), rfl, (q0n (q0n (q0n (q0n (q0n (q0n b9.out (by show w.heap.size ≤ w.heap.size + 1 + 1 + 1; omega)) (by show w.heap.size ≤ w.heap.size + 1 + 1 + 1; omega)) (by show w.heap.size ≤ w.heap.size + 1 + 1 + 1; omega)) (by show w.heap.size ≤ w.heap.size + 1 + 1 + 1; omega)) (by show w.heap.size ≤ w.heap.size + 1 + 1 + 1; omega)) (by show w.heap.size ≤ w.heap.size + 1 + 1 + 1 + 1; omega)), .inl ⟨k3.out, q0o (q0q (cs := #[(.string (⟨#[]⟩ : ByteArray)), (.string (⟨#[]⟩ : ByteArray)), (.slice none 0 0), (.int .i64 0), (.slice none 0 0)]) (cs' := #[(.string (⟨#[]⟩ : ByteArray)), (.string (⟨#[]⟩ : ByteArray)), (.slice none 0 0), (.int .i64 0), (.slice none 0 0)]) (q0q (cs := #[(.string (⟨#[]⟩ : ByteArray)), (.string (⟨#[]⟩ : ByteArray)), (.slice none 0 0), (.int .i64 0), (.slice none 0 0)]) (cs' := #[(.string (⟨#[]⟩ : ByteArray)), (.string (⟨#[]⟩ : ByteArray)), (.slice none 0 0), (.int .i64 0), (.slice none 0 0)]) (q0q (cs := #[(.string (⟨#[]⟩ : ByteArray)), (.string (⟨#[]⟩ : ByteArray)), (.slice none 0 0), (.int .i64 0), (.slice none 0 0)]) (cs' := #[(.string (⟨#[]⟩ : ByteArray)), (.string (⟨#[]⟩ : ByteArray)), (.slice none 0 0), (.int .i64 0), (.slice none 0 0)]) (q0q (cs := #[(.string (⟨#[]⟩ : ByteArray)), (.string (⟨#[]⟩ : ByteArray)), (.slice none 0 0), (.int .i64 0), (.slice none 0 0)]) (cs' := #[(.string (⟨#[]⟩ : ByteArray)), (.string (⟨#[]⟩ : ByteArray)), (.slice none 0 0), (.int .i64 0), (.slice none 0 0)]) (q0q (cs := #[(.string (⟨#[]⟩ : ByteArray)), (.string (⟨#[]⟩ : ByteArray)), (.slice none 0 0), (.int .i64 0), (.slice none 0 0)]) (cs' := #[(.string (⟨#[]⟩ : ByteArray)), (.string (⟨#[]⟩ : ByteArray)), (.slice none 0 0), (.int .i64 0), (.slice none 0 0)]) Z8.out 0 _ rfl) 1 _ rfl) 2 _ rfl) 3 _ rfl) 4 _ rfl) (by show w.heap.size + 1 + 1 + 1 ≠ w.heap.size + 1 + 1 + 1 + 1; omega) _, (q0q (cs := #[.int .i64 0]) (cs' := #[.int .i64 p.2]) (q0o (q0o (q0o (q0o (q0o Z9.out (by show w.heap.size + 1 + 1 + 1 + 1 ≠ w.heap.size + 1 + 1 + 1; omega) _) (by show w.heap.size + 1 + 1 + 1 + 1 ≠ w.heap.size + 1 + 1 + 1; omega) _) (by show w.heap.size + 1 + 1 + 1 + 1 ≠ w.heap.size + 1 + 1 + 1; omega) _) (by show w.heap.size + 1 + 1 + 1 + 1 ≠ w.heap.size + 1 + 1 + 1; omega) _) (by show w.heap.size + 1 + 1 + 1 + 1 ≠ w.heap.size + 1 + 1 + 1; omega) _) 0 _ rfl)⟩⟩
  obtain ⟨q, hq⟩ := HQ.out q2
  have k3 := am q2
  have HM := am hq
  have E2 := beq_iff_eq.2 q2
  clear q2 hq
  obtain ⟨b0, b1, b2, b3, b4⟩ := ce5 Z4.out
  have i2 := q0k Z4.out 4
  gi_wp2_with (first | ((first | (refine ⟨trivial, ?_⟩; gi_at_call 37) | gi_at_call 37); refine (CallsIn.inRound l (callsIn_wide.2 (clone_calls A3 c3 ys _ (q1k.reads (q1k.below H3.out a8.out) HC.out b9.out) (by have h_ := k1.out; (try dsimp only at h_); omega)))).mono ?_; rintro e w9 ⟨v9, rfl, ho, hb⟩; obtain ⟨A9, c9, e9⟩ := Kd.R_slice ho; subst e9; have H9 := am (Kd.R_lower ho (q0m b9.out)); have X4 := am (q0c Z4.out hb); have X8 := am (q0c Z8.out hb); have X9 := am (q0c Z9.out hb); have m8 := am (q0c XP.out hb); have g1 := am (q0j b9.out hb); have i6 := am (q0j a8.out hb); have i7 := am (KeepsFrom.trans KF.out ((q1b hb).from _)); clear Z4 Z8 Z9 Z6 Z7 XP b9 a8 KF hb ho b0 b1 b2 b3 b4 i2; have Z4 := X4; have Z8 := X8; have Z9 := X9; have XP := m8; have b9 := g1; have a8 := i6; have KF := i7; clear X4 X8 X9 m8 g1 i6 i7; obtain ⟨gr, s9, e6, j0, t5, k4, i3⟩ := Kd.R_form H9.out (by have := HI.out; omega); injection e6 with e6 e7 e8; subst e6; subst e8; clear e7; obtain ⟨cc, q1, l2, i0, o1⟩ := Kd.R_elem H9.out z51 ((x.val : Nat) : Int) (by omega) (by have := HI.out; omega); rw [Int.toNat_natCast] at i0 o1; generalize ys.getD (((x.val : Nat) : Int)).toNat z51 = s2 at l2; obtain rfl := X.k51_openM l2; clear l2 q1; have t0 : w9.cell? ⟨gr, x.val * 5, none⟩ = some (.int .i64 s2.f0) := i0 0 _ rfl; have t1 : w9.cell? ⟨gr, x.val * 5 + 1, none⟩ = some (.int .i64 s2.f1) := i0 1 _ rfl; have t2 : w9.cell? ⟨gr, x.val * 5 + 2, none⟩ = some (.int .i64 s2.f2) := i0 2 _ rfl; have t3 : w9.cell? ⟨gr, x.val * 5 + 3, none⟩ = some (.int .i64 s2.f3) := i0 3 _ rfl; have t4 : w9.cell? ⟨gr, x.val * 5 + 4, none⟩ = some (.string s2.f4) := i0 4 _ rfl; have r2 : w9.frozen? ⟨gr, x.val * 5, none⟩ = false := q0k i3 _; have r3 : w9.frozen? ⟨gr, x.val * 5 + 1, none⟩ = false := q0k i3 _; have r4 : w9.frozen? ⟨gr, x.val * 5 + 2, none⟩ = false := q0k i3 _; have r5 : w9.frozen? ⟨gr, x.val * 5 + 3, none⟩ = false := q0k i3 _; have r6 : w9.frozen? ⟨gr, x.val * 5 + 4, none⟩ = false := q0k i3 _; have m7 := am (Kd.own_blk (Kd.R_ne H9.out Z4.out (by decide))); have p7 := am (Kd.own_blk (Kd.R_ne H9.out Z8.out (by decide))); have p8 := am (Kd.own_blk (Kd.R_ne H9.out Z9.out (by decide))); have u0 := m7.out; have u5 := m7.out.symm; have l3 : w.heap.size ≠ a5 := (by have b5 := c6.out; have b6 := HS.out; omega); have r1 := l3.symm; have i5 := am j0; clear i0 o1 j0 i3; obtain ⟨b0, b1, b2, b3, b4⟩ := ce5 Z4.out; have i2 := q0k Z4.out 4; have y0 : w9.cell? ⟨a5, 0, none⟩ = some (.int .i64 p.1.f0) := bc XP.out; have y1 : w9.cell? ⟨a5, 1, none⟩ = some (.int .i64 p.1.f1) := bc XP.out; have y2 : w9.cell? ⟨a5, 2, none⟩ = some (.int .i64 p.1.f2) := bc XP.out; have y3 : w9.cell? ⟨a5, 3, none⟩ = some (.int .i64 p.1.f3) := bc XP.out; have y4 : w9.cell? ⟨a5, 4, none⟩ = some (.string p.1.f4) := bc XP.out) | ((first | (refine ⟨trivial, ?_⟩; gi_at_call 30) | gi_at_call 30); refine (CallsIn.inRound l (callsIn_wide.2 (mend_n ky nm (some ad) c1 ts is' (some ⟨gr, 0, none⟩) c9 (ys.set x.val p.1) ys.length List.length_set q.1 q.2 (St5 (w9.setCell ⟨w.heap.size, 4, none⟩ (.slice (some ⟨gr, 0, none⟩) ys.length c9)) gr (x.val * 5) p.1) (Kd.C_below HT.out (st5_below _ _ _ _ _ (q0n b9.out (by show w.heap.size ≤ w.heap.size; omega)) i5.out)) (Kd.R_reads' (put51 _ w.heap.size gr ys.length c9 (fun _ => True) ys (Kd.R_set H9.out Z4.out (by decide) 4 (.slice (some ⟨gr, 0, none⟩) ys.length c9)) x.val HI.out p.1)).2.2 HM.out))).mono ?_; rintro e u7 ⟨u6, rfl, ho, hb⟩; obtain ⟨l6, n3, p9⟩ := Kd.R_slice ho; subst p9; have QB := am (show Below w.heap.size w (St5 (w9.setCell ⟨w.heap.size, 4, none⟩ (.slice (some ⟨gr, 0, none⟩) ys.length c9)) gr (x.val * 5) p.1) from (st5_below _ _ _ _ _ (q0n b9.out (by show w.heap.size ≤ w.heap.size; omega)) i5.out)); have p4 := am (Kd.R_lower ho (q0m QB.out)); have X8 := am (q0c (show (St5 (w9.setCell ⟨w.heap.size, 4, none⟩ (.slice (some ⟨gr, 0, none⟩) ys.length c9)) gr (x.val * 5) p.1).heap[w.heap.size + 1 + 1 + 1]? = some (.cells (#[(.string (⟨#[]⟩ : ByteArray)), (.string (⟨#[]⟩ : ByteArray)), (.slice none 0 0), (.int .i64 0), (.slice none 0 0)] : Array Value) 27 (0, 0)) from st5_far _ _ _ _ _ _ _ (q0o Z8.out (by show w.heap.size + 1 + 1 + 1 ≠ w.heap.size; omega) _) p7.out.symm) hb); have X9 := am (q0c (show (St5 (w9.setCell ⟨w.heap.size, 4, none⟩ (.slice (some ⟨gr, 0, none⟩) ys.length c9)) gr (x.val * 5) p.1).heap[w.heap.size + 1 + 1 + 1 + 1]? = some (.cells (#[(.int .i64 0)] : Array Value) 29 (0, 0)) from st5_far _ _ _ _ _ _ _ (q0o Z9.out (by show w.heap.size + 1 + 1 + 1 + 1 ≠ w.heap.size; omega) _) p8.out.symm) hb); have i7 := am (KeepsFrom.trans (show KeepsFrom w5.heap.size W (St5 (w9.setCell ⟨w.heap.size, 4, none⟩ (.slice (some ⟨gr, 0, none⟩) ys.length c9)) gr (x.val * 5) p.1) from KeepsFrom.trans (KeepsFrom.trans (KeepsFrom.trans (KeepsFrom.trans (KeepsFrom.trans (KeepsFrom.trans KF.out ((KeepsOthers.setCell _ _ _).from _)) ((KeepsOthers.setCell _ _ _).from _)) ((KeepsOthers.setCell _ _ _).from _)) ((KeepsOthers.setCell _ _ _).from _)) ((KeepsOthers.setCell _ _ _).from _)) ((KeepsOthers.setCell _ _ _).from _)) ((q1b hb).from _)); have g1 := am (q0j QB.out hb); clear Z4 Z8 Z9 XP b9 a8 KF QB hb ho H9 t0 t1 t2 t3 t4 r2 r3 r4 r5 r6 y0 y1 y2 y3 y4 i2 b0 b1 b2 b3 b4; have Z8 := X8; have Z9 := X9; have b9 := g1; have KF := i7; clear X8 X9 g1 i7; obtain ⟨d0, d1, d2, d3, d4⟩ := ce5 Z8.out; obtain ⟨k5, k8, k9, l0, l1⟩ := z5 Z8.out; have q0 := ce1 Z9.out; have l4 := z1 Z9.out))
  exact ⟨(by repeat (first | exact KF.out | refine KeepsFrom.trans ?_ ((KeepsOthers.setCell _ _ _).from _))), g5, x, p, rfl, i1.out, m6.out, (by rw [m1.out, m5.out]; exact HP.out), rfl, (q0n (q0n (q0n (q0n (q0n (q0n b9.out (by show w.heap.size ≤ w.heap.size + 1 + 1 + 1; omega)) (by show w.heap.size ≤ w.heap.size + 1 + 1 + 1; omega)) (by show w.heap.size ≤ w.heap.size + 1 + 1 + 1; omega)) (by show w.heap.size ≤ w.heap.size + 1 + 1 + 1; omega)) (by show w.heap.size ≤ w.heap.size + 1 + 1 + 1; omega)) (by show w.heap.size ≤ w.heap.size + 1 + 1 + 1 + 1; omega)), .inr ⟨k3.out, q, l6, n3, HM.out, q0o (q0q (cs := #[(.string ky), (.string nm), (.slice (some ad) ts.length c1), (.int .i64 q.1), (.slice none 0 0)]) (cs' := #[(.string ky), (.string nm), (.slice (some ad) ts.length c1), (.int .i64 q.1), (.slice l6 q.2.length n3)]) (q0q (cs := #[(.string ky), (.string nm), (.slice (some ad) ts.length c1), (.int .i64 0), (.slice none 0 0)]) (cs' := #[(.string ky), (.string nm), (.slice (some ad) ts.length c1), (.int .i64 q.1), (.slice none 0 0)]) (q0q (cs := #[(.string ky), (.string nm), (.slice none 0 0), (.int .i64 0), (.slice none 0 0)]) (cs' := #[(.string ky), (.string nm), (.slice (some ad) ts.length c1), (.int .i64 0), (.slice none 0 0)]) (q0q (cs := #[(.string ky), (.string (⟨#[]⟩ : ByteArray)), (.slice none 0 0), (.int .i64 0), (.slice none 0 0)]) (cs' := #[(.string ky), (.string nm), (.slice none 0 0), (.int .i64 0), (.slice none 0 0)]) (q0q (cs := #[(.string (⟨#[]⟩ : ByteArray)), (.string (⟨#[]⟩ : ByteArray)), (.slice none 0 0), (.int .i64 0), (.slice none 0 0)]) (cs' := #[(.string ky), (.string (⟨#[]⟩ : ByteArray)), (.slice none 0 0), (.int .i64 0), (.slice none 0 0)]) Z8.out 0 _ rfl) 1 _ rfl) 2 _ rfl) 3 _ rfl) 4 _ rfl) (by show w.heap.size + 1 + 1 + 1 ≠ w.heap.size + 1 + 1 + 1 + 1; omega) _, (q0q (cs := #[.int .i64 0]) (cs' := #[.int .i64 0]) (q0o (q0o (q0o (q0o (q0o Z9.out (by show w.heap.size + 1 + 1 + 1 + 1 ≠ w.heap.size + 1 + 1 + 1; omega) _) (by show w.heap.size + 1 + 1 + 1 + 1 ≠ w.heap.size + 1 + 1 + 1; omega) _) (by show w.heap.size + 1 + 1 + 1 + 1 ≠ w.heap.size + 1 + 1 + 1; omega) _) (by show w.heap.size + 1 + 1 + 1 + 1 ≠ w.heap.size + 1 + 1 + 1; omega) _) (by show w.heap.size + 1 + 1 + 1 + 1 ≠ w.heap.size + 1 + 1 + 1; omega) _) 0 _ rfl), (Kd.R_set (Kd.R_set (Kd.R_set (Kd.R_set (Kd.R_set (Kd.R_set p4.out Z8.out (by decide) 0 _) (q0q (cs := #[(.string (⟨#[]⟩ : ByteArray)), (.string (⟨#[]⟩ : ByteArray)), (.slice none 0 0), (.int .i64 0), (.slice none 0 0)]) (cs' := #[(.string ky), (.string (⟨#[]⟩ : ByteArray)), (.slice none 0 0), (.int .i64 0), (.slice none 0 0)]) Z8.out 0 _ rfl) (by decide) 1 _) (q0q (cs := #[(.string ky), (.string (⟨#[]⟩ : ByteArray)), (.slice none 0 0), (.int .i64 0), (.slice none 0 0)]) (cs' := #[(.string ky), (.string nm), (.slice none 0 0), (.int .i64 0), (.slice none 0 0)]) (q0q (cs := #[(.string (⟨#[]⟩ : ByteArray)), (.string (⟨#[]⟩ : ByteArray)), (.slice none 0 0), (.int .i64 0), (.slice none 0 0)]) (cs' := #[(.string ky), (.string (⟨#[]⟩ : ByteArray)), (.slice none 0 0), (.int .i64 0), (.slice none 0 0)]) Z8.out 0 _ rfl) 1 _ rfl) (by decide) 2 _) (q0q (cs := #[(.string ky), (.string nm), (.slice none 0 0), (.int .i64 0), (.slice none 0 0)]) (cs' := #[(.string ky), (.string nm), (.slice (some ad) ts.length c1), (.int .i64 0), (.slice none 0 0)]) (q0q (cs := #[(.string ky), (.string (⟨#[]⟩ : ByteArray)), (.slice none 0 0), (.int .i64 0), (.slice none 0 0)]) (cs' := #[(.string ky), (.string nm), (.slice none 0 0), (.int .i64 0), (.slice none 0 0)]) (q0q (cs := #[(.string (⟨#[]⟩ : ByteArray)), (.string (⟨#[]⟩ : ByteArray)), (.slice none 0 0), (.int .i64 0), (.slice none 0 0)]) (cs' := #[(.string ky), (.string (⟨#[]⟩ : ByteArray)), (.slice none 0 0), (.int .i64 0), (.slice none 0 0)]) Z8.out 0 _ rfl) 1 _ rfl) 2 _ rfl) (by decide) 3 _) (q0q (cs := #[(.string ky), (.string nm), (.slice (some ad) ts.length c1), (.int .i64 0), (.slice none 0 0)]) (cs' := #[(.string ky), (.string nm), (.slice (some ad) ts.length c1), (.int .i64 q.1), (.slice none 0 0)]) (q0q (cs := #[(.string ky), (.string nm), (.slice none 0 0), (.int .i64 0), (.slice none 0 0)]) (cs' := #[(.string ky), (.string nm), (.slice (some ad) ts.length c1), (.int .i64 0), (.slice none 0 0)]) (q0q (cs := #[(.string ky), (.string (⟨#[]⟩ : ByteArray)), (.slice none 0 0), (.int .i64 0), (.slice none 0 0)]) (cs' := #[(.string ky), (.string nm), (.slice none 0 0), (.int .i64 0), (.slice none 0 0)]) (q0q (cs := #[(.string (⟨#[]⟩ : ByteArray)), (.string (⟨#[]⟩ : ByteArray)), (.slice none 0 0), (.int .i64 0), (.slice none 0 0)]) (cs' := #[(.string ky), (.string (⟨#[]⟩ : ByteArray)), (.slice none 0 0), (.int .i64 0), (.slice none 0 0)]) Z8.out 0 _ rfl) 1 _ rfl) 2 _ rfl) 3 _ rfl) (by decide) 4 _) (q0o (q0o (q0o (q0o (q0o Z9.out (by show w.heap.size + 1 + 1 + 1 + 1 ≠ w.heap.size + 1 + 1 + 1; omega) _) (by show w.heap.size + 1 + 1 + 1 + 1 ≠ w.heap.size + 1 + 1 + 1; omega) _) (by show w.heap.size + 1 + 1 + 1 + 1 ≠ w.heap.size + 1 + 1 + 1; omega) _) (by show w.heap.size + 1 + 1 + 1 + 1 ≠ w.heap.size + 1 + 1 + 1; omega) _) (by show w.heap.size + 1 + 1 + 1 + 1 ≠ w.heap.size + 1 + 1 + 1; omega) _) (by decide) 0 _)⟩⟩
 case done =>
  rintro D ls W hD rfl ⟨⟨h4, h6, h7, h8, h9⟩, hB, h0, hN⟩ hK
  have Z8 := am h8
  have Z9 := am h9
  have b9 := am hB
  have l8 := am hK
  have hl := heldL_skip ts is' ys a6 i8 (List.finRange ys.length) [] (by rw [uptoF_all] at hN; exact hN)
  rw [List.append_nil, l9.out] at hl
  obtain rfl : r = (191, 0, []) := by simpa [heldL] using hl
  clear h4 h6 h7 h8 h9 hB h0 hN hK hl
  obtain ⟨d0, d1, d2, d3, d4⟩ := ce5 Z8.out
  obtain ⟨k5, k8, k9, l0, l1⟩ := z5 Z8.out
  have q0 := ce1 Z9.out
  have l4 := z1 Z9.out
  gi_wp2
  have E8 := am (show ((((((W.setCell ⟨w.heap.size + 1 + 1 + 1, 0, none⟩ (.string (⟨#[]⟩ : ByteArray))).setCell ⟨w.heap.size + 1 + 1 + 1, 1, none⟩ (.string (⟨#[]⟩ : ByteArray))).setCell ⟨w.heap.size + 1 + 1 + 1, 2, none⟩ (.slice none 0 0)).setCell ⟨w.heap.size + 1 + 1 + 1, 3, none⟩ (.int .i64 0)).setCell ⟨w.heap.size + 1 + 1 + 1, 4, none⟩ (.slice none 0 0)).setCell ⟨w.heap.size + 1 + 1 + 1 + 1, 0, none⟩ (.int .i64 191)).heap[w.heap.size + 1 + 1 + 1]? = some (.cells (#[(.string (⟨#[]⟩ : ByteArray)), (.string (⟨#[]⟩ : ByteArray)), (.slice none 0 0), (.int .i64 0), (.slice none 0 0)] : Array Value) 27 (0, 0)) from q0o (q0q (cs := #[(.string (⟨#[]⟩ : ByteArray)), (.string (⟨#[]⟩ : ByteArray)), (.slice none 0 0), (.int .i64 0), (.slice none 0 0)]) (cs' := #[(.string (⟨#[]⟩ : ByteArray)), (.string (⟨#[]⟩ : ByteArray)), (.slice none 0 0), (.int .i64 0), (.slice none 0 0)]) (q0q (cs := #[(.string (⟨#[]⟩ : ByteArray)), (.string (⟨#[]⟩ : ByteArray)), (.slice none 0 0), (.int .i64 0), (.slice none 0 0)]) (cs' := #[(.string (⟨#[]⟩ : ByteArray)), (.string (⟨#[]⟩ : ByteArray)), (.slice none 0 0), (.int .i64 0), (.slice none 0 0)]) (q0q (cs := #[(.string (⟨#[]⟩ : ByteArray)), (.string (⟨#[]⟩ : ByteArray)), (.slice none 0 0), (.int .i64 0), (.slice none 0 0)]) (cs' := #[(.string (⟨#[]⟩ : ByteArray)), (.string (⟨#[]⟩ : ByteArray)), (.slice none 0 0), (.int .i64 0), (.slice none 0 0)]) (q0q (cs := #[(.string (⟨#[]⟩ : ByteArray)), (.string (⟨#[]⟩ : ByteArray)), (.slice none 0 0), (.int .i64 0), (.slice none 0 0)]) (cs' := #[(.string (⟨#[]⟩ : ByteArray)), (.string (⟨#[]⟩ : ByteArray)), (.slice none 0 0), (.int .i64 0), (.slice none 0 0)]) (q0q (cs := #[(.string (⟨#[]⟩ : ByteArray)), (.string (⟨#[]⟩ : ByteArray)), (.slice none 0 0), (.int .i64 0), (.slice none 0 0)]) (cs' := #[(.string (⟨#[]⟩ : ByteArray)), (.string (⟨#[]⟩ : ByteArray)), (.slice none 0 0), (.int .i64 0), (.slice none 0 0)]) Z8.out 0 _ rfl) 1 _ rfl) 2 _ rfl) 3 _ rfl) 4 _ rfl) (by show w.heap.size + 1 + 1 + 1 ≠ w.heap.size + 1 + 1 + 1 + 1; omega) _)
  have E9 := am (show ((((((W.setCell ⟨w.heap.size + 1 + 1 + 1, 0, none⟩ (.string (⟨#[]⟩ : ByteArray))).setCell ⟨w.heap.size + 1 + 1 + 1, 1, none⟩ (.string (⟨#[]⟩ : ByteArray))).setCell ⟨w.heap.size + 1 + 1 + 1, 2, none⟩ (.slice none 0 0)).setCell ⟨w.heap.size + 1 + 1 + 1, 3, none⟩ (.int .i64 0)).setCell ⟨w.heap.size + 1 + 1 + 1, 4, none⟩ (.slice none 0 0)).setCell ⟨w.heap.size + 1 + 1 + 1 + 1, 0, none⟩ (.int .i64 191)).heap[w.heap.size + 1 + 1 + 1 + 1]? = some (.cells (#[(.int .i64 191)] : Array Value) 29 (0, 0)) from (q0q (cs := #[.int .i64 0]) (cs' := #[.int .i64 191]) (q0o (q0o (q0o (q0o (q0o Z9.out (by show w.heap.size + 1 + 1 + 1 + 1 ≠ w.heap.size + 1 + 1 + 1; omega) _) (by show w.heap.size + 1 + 1 + 1 + 1 ≠ w.heap.size + 1 + 1 + 1; omega) _) (by show w.heap.size + 1 + 1 + 1 + 1 ≠ w.heap.size + 1 + 1 + 1; omega) _) (by show w.heap.size + 1 + 1 + 1 + 1 ≠ w.heap.size + 1 + 1 + 1; omega) _) (by show w.heap.size + 1 + 1 + 1 + 1 ≠ w.heap.size + 1 + 1 + 1; omega) _) 0 _ rfl))
  have EB := am (show Below w.heap.size w ((((((W.setCell ⟨w.heap.size + 1 + 1 + 1, 0, none⟩ (.string (⟨#[]⟩ : ByteArray))).setCell ⟨w.heap.size + 1 + 1 + 1, 1, none⟩ (.string (⟨#[]⟩ : ByteArray))).setCell ⟨w.heap.size + 1 + 1 + 1, 2, none⟩ (.slice none 0 0)).setCell ⟨w.heap.size + 1 + 1 + 1, 3, none⟩ (.int .i64 0)).setCell ⟨w.heap.size + 1 + 1 + 1, 4, none⟩ (.slice none 0 0)).setCell ⟨w.heap.size + 1 + 1 + 1 + 1, 0, none⟩ (.int .i64 191)) from (q0n (q0n (q0n (q0n (q0n (q0n b9.out (by show w.heap.size ≤ w.heap.size + 1 + 1 + 1; omega)) (by show w.heap.size ≤ w.heap.size + 1 + 1 + 1; omega)) (by show w.heap.size ≤ w.heap.size + 1 + 1 + 1; omega)) (by show w.heap.size ≤ w.heap.size + 1 + 1 + 1; omega)) (by show w.heap.size ≤ w.heap.size + 1 + 1 + 1; omega)) (by show w.heap.size ≤ w.heap.size + 1 + 1 + 1 + 1; omega)))
  have t7 : ∀ g_, g_ < w5.heap.size → D ≠ g_ := fun g_ h_ e_ => by omega
  have EK := am (show ((((((W.setCell ⟨w.heap.size + 1 + 1 + 1, 0, none⟩ (.string (⟨#[]⟩ : ByteArray))).setCell ⟨w.heap.size + 1 + 1 + 1, 1, none⟩ (.string (⟨#[]⟩ : ByteArray))).setCell ⟨w.heap.size + 1 + 1 + 1, 2, none⟩ (.slice none 0 0)).setCell ⟨w.heap.size + 1 + 1 + 1, 3, none⟩ (.int .i64 0)).setCell ⟨w.heap.size + 1 + 1 + 1, 4, none⟩ (.slice none 0 0)).setCell ⟨w.heap.size + 1 + 1 + 1 + 1, 0, none⟩ (.int .i64 191)).heap[D]? = some (.deferred (some [])) from ((Below.heap_setCell _ _ _ D (by show D ≠ w.heap.size + 1 + 1 + 1 + 1; have h_ := HS.out; omega)).trans ((Below.heap_setCell _ _ _ D (by show D ≠ w.heap.size + 1 + 1 + 1; have h_ := HS.out; omega)).trans ((Below.heap_setCell _ _ _ D (by show D ≠ w.heap.size + 1 + 1 + 1; have h_ := HS.out; omega)).trans ((Below.heap_setCell _ _ _ D (by show D ≠ w.heap.size + 1 + 1 + 1; have h_ := HS.out; omega)).trans ((Below.heap_setCell _ _ _ D (by show D ≠ w.heap.size + 1 + 1 + 1; have h_ := HS.out; omega)).trans ((Below.heap_setCell _ _ _ D (by show D ≠ w.heap.size + 1 + 1 + 1; have h_ := HS.out; omega)).trans l8.out)))))))
  clear l8
  generalize ((((((W.setCell ⟨w.heap.size + 1 + 1 + 1, 0, none⟩ (.string (⟨#[]⟩ : ByteArray))).setCell ⟨w.heap.size + 1 + 1 + 1, 1, none⟩ (.string (⟨#[]⟩ : ByteArray))).setCell ⟨w.heap.size + 1 + 1 + 1, 2, none⟩ (.slice none 0 0)).setCell ⟨w.heap.size + 1 + 1 + 1, 3, none⟩ (.int .i64 0)).setCell ⟨w.heap.size + 1 + 1 + 1, 4, none⟩ (.slice none 0 0)).setCell ⟨w.heap.size + 1 + 1 + 1 + 1, 0, none⟩ (.int .i64 191)) = wE at *
  refine ⟨by simp, .inl ⟨_, _, rfl, run_takeDeferred EK.out, ?_⟩⟩
  have P8 : (wE.putObj D (.deferred none)).heap[w.heap.size + 1 + 1 + 1]? = some (.cells (#[(.string (⟨#[]⟩ : ByteArray)), (.string (⟨#[]⟩ : ByteArray)), (.slice none 0 0), (.int .i64 0), (.slice none 0 0)] : Array Value) 27 (0, 0)) := (World.putObj_heap_other (by have h_ := HS.out; omega)).trans E8.out
  have P9 : (wE.putObj D (.deferred none)).heap[w.heap.size + 1 + 1 + 1 + 1]? = some (.cells (#[(.int .i64 191)] : Array Value) 29 (0, 0)) := (World.putObj_heap_other (by have h_ := HS.out; omega)).trans E9.out
  exact ⟨_, results_cs rfl _ _ (w.heap.size + 1 + 1 + 1) (w.heap.size + 1 + 1 + 1 + 1) 27 (#[(.string (⟨#[]⟩ : ByteArray)), (.string (⟨#[]⟩ : ByteArray)), (.slice none 0 0), (.int .i64 0), (.slice none 0 0)] : Array Value) (0, 0) _ (.int .i64 191) rfl P8 Try.underlying27 rfl (by kernel_rfl) rfl (load29 _ _ _ (bc P9)), .inr ⟨by decide, rfl⟩, EB.out.trans (belowK_b (w := w) (Nat.le_refl _) wE D _ _ (by have := HS.out; omega) EK.out rfl rfl)⟩
 case stop =>
  rintro D c g5 W hD ⟨kk, t6, j1⟩ ⟨c7, x, p, e1, e2, e3, e4, rfl, e6, e7⟩ hK
  have hl := l9.out
  rw [← List.take_append_drop kk (List.finRange ys.length)] at hl
  have o3 : (List.finRange ys.length).take kk = c7 ++ [x] := j1.symm.trans e1
  rw [o3, List.append_assoc, heldL_skip ts is' ys a6 i8 c7 _ e2, List.singleton_append, heldL_here _ _ _ _ _ _ _ e3, e4, Option.bind_some] at hl
  have EB := am e6
  have EK := am hK
  clear hK j1 o3 e1 e2 e3 e4 e6
  rcases e7 with ⟨h1, h2, h3⟩ | ⟨h1, q, Aq, cq, h2, h3, h4, h5⟩
  ·
   rw [if_pos h1] at hl
   obtain rfl := Option.some.inj hl
   have E8 := am h2
   have E9 := am h3
   have H1 := am h1
   clear h1 h2 h3 hl
   generalize W = wE at *
   gi_wp2
   refine ⟨by simp, .inl ⟨_, _, rfl, run_takeDeferred EK.out, ?_⟩⟩
   have P8 : (wE.putObj D (.deferred none)).heap[w.heap.size + 1 + 1 + 1]? = some (.cells (#[(.string (⟨#[]⟩ : ByteArray)), (.string (⟨#[]⟩ : ByteArray)), (.slice none 0 0), (.int .i64 0), (.slice none 0 0)] : Array Value) 27 (0, 0)) := (World.putObj_heap_other (by have h_ := HS.out; omega)).trans E8.out
   have P9 : (wE.putObj D (.deferred none)).heap[w.heap.size + 1 + 1 + 1 + 1]? = some (.cells (#[(.int .i64 p.2)] : Array Value) 29 (0, 0)) := (World.putObj_heap_other (by have h_ := HS.out; omega)).trans E9.out
   exact ⟨_, results_cs rfl _ _ (w.heap.size + 1 + 1 + 1) (w.heap.size + 1 + 1 + 1 + 1) 27 (#[(.string (⟨#[]⟩ : ByteArray)), (.string (⟨#[]⟩ : ByteArray)), (.slice none 0 0), (.int .i64 0), (.slice none 0 0)] : Array Value) (0, 0) _ (.int .i64 p.2) rfl P8 Try.underlying27 rfl (by kernel_rfl) rfl (load29 _ _ _ (bc P9)), .inr ⟨H1.out, rfl⟩, EB.out.trans (belowK_b (w := w) (Nat.le_refl _) wE D _ _ (by have := HS.out; omega) EK.out rfl rfl)⟩
  rw [if_neg (by simpa using h1), h2, Option.bind_some] at hl
  obtain rfl := Option.some.inj hl
  have E8 := am h3
  have E9 := am h4
  have E5 := am h5
  clear h1 h2 h3 h4 h5 hl
  generalize W = wE at *
  gi_wp2
  refine ⟨by simp, .inl ⟨_, _, rfl, run_takeDeferred EK.out, ?_⟩⟩
  have P8 : (wE.putObj D (.deferred none)).heap[w.heap.size + 1 + 1 + 1]? = some (.cells (#[(.string ky), (.string nm), (.slice A1 ts.length c1), (.int .i64 q.1), (.slice Aq q.2.length cq)] : Array Value) 27 (0, 0)) := (World.putObj_heap_other (by have h_ := HS.out; omega)).trans E8.out
  have P9 : (wE.putObj D (.deferred none)).heap[w.heap.size + 1 + 1 + 1 + 1]? = some (.cells (#[(.int .i64 0)] : Array Value) 29 (0, 0)) := (World.putObj_heap_other (by have h_ := HS.out; omega)).trans E9.out
  exact ⟨_, results_cs rfl _ _ (w.heap.size + 1 + 1 + 1) (w.heap.size + 1 + 1 + 1 + 1) 27 (#[(.string ky), (.string nm), (.slice A1 ts.length c1), (.int .i64 q.1), (.slice Aq q.2.length cq)] : Array Value) (0, 0) _ (.int .i64 0) rfl P8 Try.underlying27 rfl (by kernel_rfl) rfl (load29 _ _ _ (bc P9)), .inl ⟨rfl, _, rfl, q1k.own (own_R E5.out (grownBy_putObj' wE D _) (fun r_ e_ => by cases e_; exact ⟨_, EK.out, rfl⟩))⟩, EB.out.trans (belowK_b (w := w) (Nat.le_refl _) wE D _ _ (by have := HS.out; omega) EK.out rfl rfl)⟩
end Go.Proofs.Ytabmkighhmchmaa
namespace Go.Proofs.Ytabmkighhmchmaa
open Go.RowKit Go.Shelf Go.YW.PrintWords Go.YW.PrintLast Go.YW.PrintMore Go.YW.Sq
open X (S49 S51 k49 k51 q0d q0a q1r q1i z51)
set_option linter.unusedVariables false
set_option linter.unusedSimpArgs false
set_option maxHeartbeats 2000000 in
set_option maxRecDepth 100000 in
theorem beatc_calls (k : Nat) (now : Int) (g : Nat) (t : S49) (s : S51) (p : S51 × Int) (A0 : Option Addr) (c0 : Nat) (h : beatA k now t s = some p) (hl : t.f0.length ≤ c0) (w : World) (hA : Kd.C (Kd.int .i64) w A0 t.f0.length t.f0) (hg : w.heap[g]? = some (.cells #[.int .i64 now] 3 (0, 0))) :
  Calls Try.prog 51 (#[.agg #[(.slice A0 t.f0.length c0), (.int .i64 t.f1), (.int .i64 t.f2), (.int .i64 t.f3)], .agg #[(.int .i64 s.f0), (.int .i64 s.f1), (.int .i64 s.f2), (.int .i64 s.f3), (.string s.f4)]] ++ #[.pointer (some ⟨g, 0, none⟩)]) w fun e w' => e = .returned (.tuple #[.agg #[(.int .i64 p.1.f0), (.int .i64 p.1.f1), (.int .i64 p.1.f2), (.int .i64 p.1.f3), (.string p.1.f4)], .int .i64 p.2]) ∧ Below w.heap.size w w' := by
 show Calls Try.prog 51 #[.agg #[(.slice A0 t.f0.length c0), (.int .i64 t.f1), (.int .i64 t.f2), (.int .i64 t.f3)], .agg #[(.int .i64 s.f0), (.int .i64 s.f1), (.int .i64 s.f2), (.int .i64 s.f3), (.string s.f4)], .pointer (some ⟨g, 0, none⟩)] w _
 have d6 := Try.underlying49
 have d7 := Try.underlying51
 have HA := am hA
 have HL := am hl
 have HP := am (beatA_f h)
 have HB := am (Below.refl w.heap.size w)
 have BG := am hg
 clear hA hl h hg
 go_enter Try.func51, Try.ntmps51
 go_wp2_with (first | ((with_reducible refine gD 3 ?_); refine bz 3 (#[(.slice A0 t.f0.length c0), (.int .i64 t.f1), (.int .i64 t.f2), (.int .i64 t.f3)] : Array Value) 49 HB ?_; clear HB; intro g3 hg d8 hb B3 c8 HB; have a7 := nP hg BG; have b8 := am a7.out.symm; replace BG := kP BG hb; clear hb hg) | ((with_reducible refine gD 4 ?_); refine bz 4 (#[(.int .i64 s.f0), (.int .i64 s.f1), (.int .i64 s.f2), (.int .i64 s.f3), (.string s.f4)] : Array Value) 51 HB ?_; clear HB; intro g4 hg d9 hb B4 c9 HB; have a8 := nP hg BG; have b9 := am a8.out.symm; have a4 := nP hg B3; have b5 := am a4.out.symm; replace BG := kP BG hb; replace B3 := kP B3 hb; clear hb hg) | ((with_reducible refine gD 5 ?_); refine bz 5 (#[(.int .i64 0), (.int .i64 0), (.int .i64 0), (.int .i64 0), (.string (⟨#[]⟩ : ByteArray))] : Array Value) 51 HB ?_; clear HB; intro g5 hg c7 hb B5 d5 HB; have a9 := nP hg BG; have c6 := am a9.out.symm; have a5 := nP hg B3; have b6 := am a5.out.symm; have a6 := nP hg B4; have b7 := am a6.out.symm; replace BG := kP BG hb; replace B3 := kP B3 hb; replace B4 := kP B4 hb; clear hb hg; obtain ⟨a0, a1, a2, a3⟩ := ce4 B3.out; obtain ⟨b0, b1, b2, b3, b4⟩ := ce5 B4.out; have k0 : c7.cell? ⟨g, 0, none⟩ = some (.int .i64 now) := bc BG.out) | (go_at_call 52; refine (X.Gj.calls k A0 c0 t.f0 t.f1 t.f2 t.f3 s.f0 s.f1 s.f2 s.f3 s.f4 now _ _ _ _ _ _ _ (Kd.C_below HA.out HB.out) HL.out HP.out).mono ?_; rintro e w3 ⟨rfl, hb⟩; replace B5 := kP B5 hb; replace HB := bS HB hb; clear k0 BG B3 B4 a0 a1 a2 a3 b0 b1 b2 b3 b4 hb; obtain ⟨d0, d1, d2, d3, d4⟩ := ce5 B5.out; obtain ⟨e0, e1, e2, e3, e4⟩ := z5 B5.out))
 refine bodyPost_ret (q0v rfl _ _ g5 51 (#[(.int .i64 p.1.f0), (.int .i64 p.1.f1), (.int .i64 p.1.f2), (.int .i64 p.1.f3), (.string p.1.f4)] : Array Value) (0, 0) _ rfl (pP B5.out) Try.underlying51 rfl (by kernel_rfl)) rfl ?_
 exact ⟨rfl, pB HB.out⟩
set_option maxHeartbeats 2000000 in
set_option maxRecDepth 100000 in
theorem failc_calls (k : Nat) (now : Int) (g : Nat) (t : S49) (s : S51) (p : S51 × Int) (A0 : Option Addr) (c0 : Nat) (h : failA k now t s = some p) (hl : t.f0.length ≤ c0) (w : World) (hA : Kd.C (Kd.int .i64) w A0 t.f0.length t.f0) (hg : w.heap[g]? = some (.cells #[.int .i64 now] 3 (0, 0))) :
  Calls Try.prog 55 (#[.agg #[(.slice A0 t.f0.length c0), (.int .i64 t.f1), (.int .i64 t.f2), (.int .i64 t.f3)], .agg #[(.int .i64 s.f0), (.int .i64 s.f1), (.int .i64 s.f2), (.int .i64 s.f3), (.string s.f4)]] ++ #[.pointer (some ⟨g, 0, none⟩)]) w fun e w' => e = .returned (.tuple #[.agg #[(.int .i64 p.1.f0), (.int .i64 p.1.f1), (.int .i64 p.1.f2), (.int .i64 p.1.f3), (.string p.1.f4)], .int .i64 p.2]) ∧ Below w.heap.size w w' := by
 show Calls Try.prog 55 #[.agg #[(.slice A0 t.f0.length c0), (.int .i64 t.f1), (.int .i64 t.f2), (.int .i64 t.f3)], .agg #[(.int .i64 s.f0), (.int .i64 s.f1), (.int .i64 s.f2), (.int .i64 s.f3), (.string s.f4)], .pointer (some ⟨g, 0, none⟩)] w _
 have d6 := Try.underlying49
 have d7 := Try.underlying51
 have HA := am hA
 have HL := am hl
 have HP := am (failA_f h)
 have HB := am (Below.refl w.heap.size w)
 have BG := am hg
 clear hA hl h hg
 go_enter Try.func55, Try.ntmps55
 go_wp2_with (first | ((with_reducible refine gD 3 ?_); refine bz 3 (#[(.slice A0 t.f0.length c0), (.int .i64 t.f1), (.int .i64 t.f2), (.int .i64 t.f3)] : Array Value) 49 HB ?_; clear HB; intro g3 hg d8 hb B3 c8 HB; have a7 := nP hg BG; have b8 := am a7.out.symm; replace BG := kP BG hb; clear hb hg) | ((with_reducible refine gD 4 ?_); refine bz 4 (#[(.int .i64 s.f0), (.int .i64 s.f1), (.int .i64 s.f2), (.int .i64 s.f3), (.string s.f4)] : Array Value) 51 HB ?_; clear HB; intro g4 hg d9 hb B4 c9 HB; have a8 := nP hg BG; have b9 := am a8.out.symm; have a4 := nP hg B3; have b5 := am a4.out.symm; replace BG := kP BG hb; replace B3 := kP B3 hb; clear hb hg) | ((with_reducible refine gD 5 ?_); refine bz 5 (#[(.int .i64 0), (.int .i64 0), (.int .i64 0), (.int .i64 0), (.string (⟨#[]⟩ : ByteArray))] : Array Value) 51 HB ?_; clear HB; intro g5 hg c7 hb B5 d5 HB; have a9 := nP hg BG; have c6 := am a9.out.symm; have a5 := nP hg B3; have b6 := am a5.out.symm; have a6 := nP hg B4; have b7 := am a6.out.symm; replace BG := kP BG hb; replace B3 := kP B3 hb; replace B4 := kP B4 hb; clear hb hg; obtain ⟨a0, a1, a2, a3⟩ := ce4 B3.out; obtain ⟨b0, b1, b2, b3, b4⟩ := ce5 B4.out; have k0 : c7.cell? ⟨g, 0, none⟩ = some (.int .i64 now) := bc BG.out) | (go_at_call 56; refine (X.Ga.calls k A0 c0 t.f0 t.f1 t.f2 t.f3 s.f0 s.f1 s.f2 s.f3 s.f4 now _ _ _ _ _ _ _ (Kd.C_below HA.out HB.out) HL.out HP.out).mono ?_; rintro e w3 ⟨rfl, hb⟩; replace B5 := kP B5 hb; replace HB := bS HB hb; clear k0 BG B3 B4 a0 a1 a2 a3 b0 b1 b2 b3 b4 hb; obtain ⟨d0, d1, d2, d3, d4⟩ := ce5 B5.out; obtain ⟨e0, e1, e2, e3, e4⟩ := z5 B5.out))
 refine bodyPost_ret (q0v rfl _ _ g5 51 (#[(.int .i64 p.1.f0), (.int .i64 p.1.f1), (.int .i64 p.1.f2), (.int .i64 p.1.f3), (.string p.1.f4)] : Array Value) (0, 0) _ rfl (pP B5.out) Try.underlying51 rfl (by kernel_rfl)) rfl ?_
 exact ⟨rfl, pB HB.out⟩
set_option maxHeartbeats 2000000 in
set_option maxRecDepth 100000 in
theorem donec_calls (b8 : ByteArray) (g : Nat) (t : S49) (s : S51) (p : S51 × Int) (A0 : Option Addr) (c0 : Nat) (h : doneA b8 t s = some p) (hl : t.f0.length ≤ c0) (w : World) (hA : Kd.C (Kd.int .i64) w A0 t.f0.length t.f0) (hg : w.heap[g]? = some (.cells #[.string b8] 9 (0, 0))) :
  Calls Try.prog 53 (#[.agg #[(.slice A0 t.f0.length c0), (.int .i64 t.f1), (.int .i64 t.f2), (.int .i64 t.f3)], .agg #[(.int .i64 s.f0), (.int .i64 s.f1), (.int .i64 s.f2), (.int .i64 s.f3), (.string s.f4)]] ++ #[.pointer (some ⟨g, 0, none⟩)]) w fun e w' => e = .returned (.tuple #[.agg #[(.int .i64 p.1.f0), (.int .i64 p.1.f1), (.int .i64 p.1.f2), (.int .i64 p.1.f3), (.string p.1.f4)], .int .i64 p.2]) ∧ Below w.heap.size w w' := by
 show Calls Try.prog 53 #[.agg #[(.slice A0 t.f0.length c0), (.int .i64 t.f1), (.int .i64 t.f2), (.int .i64 t.f3)], .agg #[(.int .i64 s.f0), (.int .i64 s.f1), (.int .i64 s.f2), (.int .i64 s.f3), (.string s.f4)], .pointer (some ⟨g, 0, none⟩)] w _
 have d7 := Try.underlying49
 have d8 := Try.underlying51
 have HA := am hA
 have HL := am hl
 have HP := am (doneA_f h)
 have HB := am (Below.refl w.heap.size w)
 have BG := am hg
 clear hA hl h hg
 go_enter Try.func53, Try.ntmps53
 go_wp2_with (first | ((with_reducible refine gD 3 ?_); refine bz 3 (#[(.slice A0 t.f0.length c0), (.int .i64 t.f1), (.int .i64 t.f2), (.int .i64 t.f3)] : Array Value) 49 HB ?_; clear HB; intro g3 hg d9 hb B3 c9 HB; have a7 := nP hg BG; have b9 := am a7.out.symm; replace BG := kP BG hb; clear hb hg) | ((with_reducible refine gD 4 ?_); refine bz 4 (#[(.int .i64 s.f0), (.int .i64 s.f1), (.int .i64 s.f2), (.int .i64 s.f3), (.string s.f4)] : Array Value) 51 HB ?_; clear HB; intro g4 hg e0 hb B4 d5 HB; have a8 := nP hg BG; have c6 := am a8.out.symm; have a4 := nP hg B3; have b5 := am a4.out.symm; replace BG := kP BG hb; replace B3 := kP B3 hb; clear hb hg) | ((with_reducible refine gD 5 ?_); refine bz 5 (#[(.int .i64 0), (.int .i64 0), (.int .i64 0), (.int .i64 0), (.string (⟨#[]⟩ : ByteArray))] : Array Value) 51 HB ?_; clear HB; intro g5 hg c8 hb B5 d6 HB; have a9 := nP hg BG; have c7 := am a9.out.symm; have a5 := nP hg B3; have b6 := am a5.out.symm; have a6 := nP hg B4; have b7 := am a6.out.symm; replace BG := kP BG hb; replace B3 := kP B3 hb; replace B4 := kP B4 hb; clear hb hg; obtain ⟨a0, a1, a2, a3⟩ := ce4 B3.out; obtain ⟨b0, b1, b2, b3, b4⟩ := ce5 B4.out; have k0 : c8.cell? ⟨g, 0, none⟩ = some (.string b8) := bc BG.out) | (go_at_call 54; refine (X.Gk.calls A0 c0 t.f0 t.f1 t.f2 t.f3 s.f0 s.f1 s.f2 s.f3 s.f4 b8 _ _ _ _ _ _ _ (Kd.C_below HA.out HB.out) HL.out HP.out).mono ?_; rintro e w3 ⟨rfl, hb⟩; replace B5 := kP B5 hb; replace HB := bS HB hb; clear k0 BG B3 B4 a0 a1 a2 a3 b0 b1 b2 b3 b4 hb; obtain ⟨d0, d1, d2, d3, d4⟩ := ce5 B5.out; obtain ⟨e1, e2, e3, e4, e5⟩ := z5 B5.out))
 refine bodyPost_ret (q0v rfl _ _ g5 51 (#[(.int .i64 p.1.f0), (.int .i64 p.1.f1), (.int .i64 p.1.f2), (.int .i64 p.1.f3), (.string p.1.f4)] : Array Value) (0, 0) _ rfl (pP B5.out) Try.underlying51 rfl (by kernel_rfl)) rfl ?_
 exact ⟨rfl, pB HB.out⟩
set_option maxHeartbeats 2000000 in
set_option maxRecDepth 100000 in
theorem beat_calls (k : Nat) (ky nm : ByteArray) (A1 : Option Addr) (c1 : Nat) (ts : List S49) (is : Int) (A2 : Option Addr) (c2 : Nat) (xs : List S51) (now a4 : Int) (r : Int × Int × List S51) (w : World) (hT : Kd.C k49 w A1 ts.length ts) (ht : ts.length ≤ c1) (hC : Kd.C k51 w A2 xs.length xs) (h : heldO k ky nm ts is xs now a4 (beatA k now) = some r) :
  Calls Try.prog 19 #[.agg #[(.string ky), (.string nm), (.slice A1 ts.length c1), (.int .i64 is), (.slice A2 xs.length c2)], .int .i64 now, .int .i64 a4] w fun e w' => runPost ky nm A1 c1 ts A2 c2 xs w r e w' := by
 have d6 := Try.underlying27
 have HC := am hC
 have HT := am hT
 have b9 := am ht
 have HH := am h
 have HB := am (Below.refl w.heap.size w)
 clear hT hC h ht
 by_cases h0 : r.1 = 0
 ·
  have H0 := am h0
  clear h0
  go_enter Try.func19, Try.ntmps19
  go_wp2_with (first | ((with_reducible refine gD 3 ?_); refine bz 3 (#[(.string ky), (.string nm), (.slice A1 ts.length c1), (.int .i64 is), (.slice A2 xs.length c2)] : Array Value) 27 HB ?_; clear HB; intro g1 hg b7 hb B1 a9 HB; clear hb hg) | ((with_reducible refine gD 4 ?_); refine bz 4 (#[(.int .i64 now)] : Array Value) 3 HB ?_; clear HB; intro g2 hg b8 hb B2 b5 HB; have a0 := nP hg B1; have a5 := am a0.out.symm; replace B1 := kP B1 hb; clear hb hg) | ((with_reducible refine gD 6 ?_); refine bz 6 (#[(.string (⟨#[]⟩ : ByteArray)), (.string (⟨#[]⟩ : ByteArray)), (.slice none 0 0), (.int .i64 0), (.slice none 0 0)] : Array Value) 27 HB ?_; clear HB; intro g3 hg a8 hb B3 b6 HB; have a1 := nP hg B1; have a6 := am a1.out.symm; have a2 := nP hg B2; have a7 := am a2.out.symm; replace B1 := kP B1 hb; replace B2 := kP B2 hb; clear hb hg; obtain ⟨b0, b1, b2, b3, b4⟩ := ce5 B1.out; have k0 : a8.cell? ⟨g2, 0, none⟩ = some (.int .i64 now) := bc B2.out) | (go_at_call 50; refine (q3o 51 _ Try.func51 (by kernel_rfl) rfl #[.pointer (some ⟨g2, 0, none⟩)] (beatA k now) k ky nm A1 c1 ts is A2 c2 xs now a4 r _ (Kd.C_below HT.out HB.out) b9.out (Kd.C_below HC.out HB.out) (fun t s p A0 c0 ha hl W hW hA => beatc_calls k now g2 t s p A0 c0 ha hl W hA (q0c B2.out hW)) HH.out).mono ?_; rintro e w3 a3; obtain ⟨⟨v3, rfl, ho⟩, hb⟩ := runPost_ok H0.out a3; obtain ⟨A3, c3, e3⟩ := q1k.slice ho; subst e3; have H3 := am (q1k.base ho (q0m HB.out)); clear a3; replace B3 := kP B3 hb; replace HB := bS HB hb; clear B1 B2 k0 b0 b1 b2 b3 b4 hb; obtain ⟨d0, d1, d2, d3, d4⟩ := ce5 B3.out; obtain ⟨c6, c7, c8, c9, d5⟩ := z5 B3.out; clear ho))
  refine bodyPost_ret (q0v rfl _ _ g3 27 (#[(.string ky), (.string nm), (.slice A1 ts.length c1), (.int .i64 r.2.1), (.slice A3 r.2.2.length c3)] : Array Value) (0, 0) _ rfl (pP B3.out) Try.underlying27 rfl (by kernel_rfl)) rfl ?_
  exact ⟨.inl ⟨H0.out, _, rfl, (q1k.set (q1k.set (q1k.set (q1k.set (q1k.set H3.out (pP (cs' := #[(.string (⟨#[]⟩ : ByteArray)), (.string (⟨#[]⟩ : ByteArray)), (.slice none 0 0), (.int .i64 0), (.slice none 0 0)]) B3.out) (by decide) _ _) (pP (cs' := #[(.string ky), (.string (⟨#[]⟩ : ByteArray)), (.slice none 0 0), (.int .i64 0), (.slice none 0 0)]) B3.out) (by decide) _ _) (pP (cs' := #[(.string ky), (.string nm), (.slice none 0 0), (.int .i64 0), (.slice none 0 0)]) B3.out) (by decide) _ _) (pP (cs' := #[(.string ky), (.string nm), (.slice A1 ts.length c1), (.int .i64 0), (.slice none 0 0)]) B3.out) (by decide) _ _) (pP (cs' := #[(.string ky), (.string nm), (.slice A1 ts.length c1), (.int .i64 r.2.1), (.slice none 0 0)]) B3.out) (by decide) _ _)⟩, pB HB.out⟩
 have H0 := am h0
 clear h0
 go_enter Try.func19, Try.ntmps19
 go_wp2_with (first | ((with_reducible refine gD 3 ?_); refine bz 3 (#[(.string ky), (.string nm), (.slice A1 ts.length c1), (.int .i64 is), (.slice A2 xs.length c2)] : Array Value) 27 HB ?_; clear HB; intro g1 hg b7 hb B1 a9 HB; clear hb hg) | ((with_reducible refine gD 4 ?_); refine bz 4 (#[(.int .i64 now)] : Array Value) 3 HB ?_; clear HB; intro g2 hg b8 hb B2 b5 HB; have a0 := nP hg B1; have a5 := am a0.out.symm; replace B1 := kP B1 hb; clear hb hg) | ((with_reducible refine gD 6 ?_); refine bz 6 (#[(.string (⟨#[]⟩ : ByteArray)), (.string (⟨#[]⟩ : ByteArray)), (.slice none 0 0), (.int .i64 0), (.slice none 0 0)] : Array Value) 27 HB ?_; clear HB; intro g3 hg a8 hb B3 b6 HB; have a1 := nP hg B1; have a6 := am a1.out.symm; have a2 := nP hg B2; have a7 := am a2.out.symm; replace B1 := kP B1 hb; replace B2 := kP B2 hb; clear hb hg; obtain ⟨b0, b1, b2, b3, b4⟩ := ce5 B1.out; have k0 : a8.cell? ⟨g2, 0, none⟩ = some (.int .i64 now) := bc B2.out) | (go_at_call 50; refine (q3o 51 _ Try.func51 (by kernel_rfl) rfl #[.pointer (some ⟨g2, 0, none⟩)] (beatA k now) k ky nm A1 c1 ts is A2 c2 xs now a4 r _ (Kd.C_below HT.out HB.out) b9.out (Kd.C_below HC.out HB.out) (fun t s p A0 c0 ha hl W hW hA => beatc_calls k now g2 t s p A0 c0 ha hl W hA (q0c B2.out hW)) HH.out).mono ?_; rintro e w3 a3; obtain ⟨rfl, hb⟩ := q4h H0.out a3; clear a3; replace B3 := kP B3 hb; replace HB := bS HB hb; clear B1 B2 k0 b0 b1 b2 b3 b4 hb; obtain ⟨d0, d1, d2, d3, d4⟩ := ce5 B3.out; obtain ⟨c6, c7, c8, c9, d5⟩ := z5 B3.out))
 refine bodyPost_ret (q0v rfl _ _ g3 27 (#[(.string (⟨#[]⟩ : ByteArray)), (.string (⟨#[]⟩ : ByteArray)), (.slice none 0 0), (.int .i64 0), (.slice none 0 0)] : Array Value) (0, 0) _ rfl (pP B3.out) Try.underlying27 rfl (by kernel_rfl)) rfl ?_
 exact ⟨.inr ⟨H0.out, rfl⟩, pB HB.out⟩
set_option maxHeartbeats 2000000 in
set_option maxRecDepth 100000 in
theorem fail_calls (k : Nat) (ky nm : ByteArray) (A1 : Option Addr) (c1 : Nat) (ts : List S49) (is : Int) (A2 : Option Addr) (c2 : Nat) (xs : List S51) (now a4 : Int) (r : Int × Int × List S51) (w : World) (hT : Kd.C k49 w A1 ts.length ts) (ht : ts.length ≤ c1) (hC : Kd.C k51 w A2 xs.length xs) (h : heldO k ky nm ts is xs now a4 (failA k now) = some r) :
  Calls Try.prog 21 #[.agg #[(.string ky), (.string nm), (.slice A1 ts.length c1), (.int .i64 is), (.slice A2 xs.length c2)], .int .i64 now, .int .i64 a4] w fun e w' => runPost ky nm A1 c1 ts A2 c2 xs w r e w' := by
 have d6 := Try.underlying27
 have HC := am hC
 have HT := am hT
 have b9 := am ht
 have HH := am h
 have HB := am (Below.refl w.heap.size w)
 clear hT hC h ht
 by_cases h0 : r.1 = 0
 ·
  have H0 := am h0
  clear h0
  go_enter Try.func21, Try.ntmps21
  go_wp2_with (first | ((with_reducible refine gD 3 ?_); refine bz 3 (#[(.string ky), (.string nm), (.slice A1 ts.length c1), (.int .i64 is), (.slice A2 xs.length c2)] : Array Value) 27 HB ?_; clear HB; intro g1 hg b7 hb B1 a9 HB; clear hb hg) | ((with_reducible refine gD 4 ?_); refine bz 4 (#[(.int .i64 now)] : Array Value) 3 HB ?_; clear HB; intro g2 hg b8 hb B2 b5 HB; have a0 := nP hg B1; have a5 := am a0.out.symm; replace B1 := kP B1 hb; clear hb hg) | ((with_reducible refine gD 6 ?_); refine bz 6 (#[(.string (⟨#[]⟩ : ByteArray)), (.string (⟨#[]⟩ : ByteArray)), (.slice none 0 0), (.int .i64 0), (.slice none 0 0)] : Array Value) 27 HB ?_; clear HB; intro g3 hg a8 hb B3 b6 HB; have a1 := nP hg B1; have a6 := am a1.out.symm; have a2 := nP hg B2; have a7 := am a2.out.symm; replace B1 := kP B1 hb; replace B2 := kP B2 hb; clear hb hg; obtain ⟨b0, b1, b2, b3, b4⟩ := ce5 B1.out; have k0 : a8.cell? ⟨g2, 0, none⟩ = some (.int .i64 now) := bc B2.out) | (go_at_call 50; refine (q3o 55 _ Try.func55 (by kernel_rfl) rfl #[.pointer (some ⟨g2, 0, none⟩)] (failA k now) k ky nm A1 c1 ts is A2 c2 xs now a4 r _ (Kd.C_below HT.out HB.out) b9.out (Kd.C_below HC.out HB.out) (fun t s p A0 c0 ha hl W hW hA => failc_calls k now g2 t s p A0 c0 ha hl W hA (q0c B2.out hW)) HH.out).mono ?_; rintro e w3 a3; obtain ⟨⟨v3, rfl, ho⟩, hb⟩ := runPost_ok H0.out a3; obtain ⟨A3, c3, e3⟩ := q1k.slice ho; subst e3; have H3 := am (q1k.base ho (q0m HB.out)); clear a3; replace B3 := kP B3 hb; replace HB := bS HB hb; clear B1 B2 k0 b0 b1 b2 b3 b4 hb; obtain ⟨d0, d1, d2, d3, d4⟩ := ce5 B3.out; obtain ⟨c6, c7, c8, c9, d5⟩ := z5 B3.out; clear ho))
  refine bodyPost_ret (q0v rfl _ _ g3 27 (#[(.string ky), (.string nm), (.slice A1 ts.length c1), (.int .i64 r.2.1), (.slice A3 r.2.2.length c3)] : Array Value) (0, 0) _ rfl (pP B3.out) Try.underlying27 rfl (by kernel_rfl)) rfl ?_
  exact ⟨.inl ⟨H0.out, _, rfl, (q1k.set (q1k.set (q1k.set (q1k.set (q1k.set H3.out (pP (cs' := #[(.string (⟨#[]⟩ : ByteArray)), (.string (⟨#[]⟩ : ByteArray)), (.slice none 0 0), (.int .i64 0), (.slice none 0 0)]) B3.out) (by decide) _ _) (pP (cs' := #[(.string ky), (.string (⟨#[]⟩ : ByteArray)), (.slice none 0 0), (.int .i64 0), (.slice none 0 0)]) B3.out) (by decide) _ _) (pP (cs' := #[(.string ky), (.string nm), (.slice none 0 0), (.int .i64 0), (.slice none 0 0)]) B3.out) (by decide) _ _) (pP (cs' := #[(.string ky), (.string nm), (.slice A1 ts.length c1), (.int .i64 0), (.slice none 0 0)]) B3.out) (by decide) _ _) (pP (cs' := #[(.string ky), (.string nm), (.slice A1 ts.length c1), (.int .i64 r.2.1), (.slice none 0 0)]) B3.out) (by decide) _ _)⟩, pB HB.out⟩
 have H0 := am h0
 clear h0
 go_enter Try.func21, Try.ntmps21
 go_wp2_with (first | ((with_reducible refine gD 3 ?_); refine bz 3 (#[(.string ky), (.string nm), (.slice A1 ts.length c1), (.int .i64 is), (.slice A2 xs.length c2)] : Array Value) 27 HB ?_; clear HB; intro g1 hg b7 hb B1 a9 HB; clear hb hg) | ((with_reducible refine gD 4 ?_); refine bz 4 (#[(.int .i64 now)] : Array Value) 3 HB ?_; clear HB; intro g2 hg b8 hb B2 b5 HB; have a0 := nP hg B1; have a5 := am a0.out.symm; replace B1 := kP B1 hb; clear hb hg) | ((with_reducible refine gD 6 ?_); refine bz 6 (#[(.string (⟨#[]⟩ : ByteArray)), (.string (⟨#[]⟩ : ByteArray)), (.slice none 0 0), (.int .i64 0), (.slice none 0 0)] : Array Value) 27 HB ?_; clear HB; intro g3 hg a8 hb B3 b6 HB; have a1 := nP hg B1; have a6 := am a1.out.symm; have a2 := nP hg B2; have a7 := am a2.out.symm; replace B1 := kP B1 hb; replace B2 := kP B2 hb; clear hb hg; obtain ⟨b0, b1, b2, b3, b4⟩ := ce5 B1.out; have k0 : a8.cell? ⟨g2, 0, none⟩ = some (.int .i64 now) := bc B2.out) | (go_at_call 50; refine (q3o 55 _ Try.func55 (by kernel_rfl) rfl #[.pointer (some ⟨g2, 0, none⟩)] (failA k now) k ky nm A1 c1 ts is A2 c2 xs now a4 r _ (Kd.C_below HT.out HB.out) b9.out (Kd.C_below HC.out HB.out) (fun t s p A0 c0 ha hl W hW hA => failc_calls k now g2 t s p A0 c0 ha hl W hA (q0c B2.out hW)) HH.out).mono ?_; rintro e w3 a3; obtain ⟨rfl, hb⟩ := q4h H0.out a3; clear a3; replace B3 := kP B3 hb; replace HB := bS HB hb; clear B1 B2 k0 b0 b1 b2 b3 b4 hb; obtain ⟨d0, d1, d2, d3, d4⟩ := ce5 B3.out; obtain ⟨c6, c7, c8, c9, d5⟩ := z5 B3.out))
 refine bodyPost_ret (q0v rfl _ _ g3 27 (#[(.string (⟨#[]⟩ : ByteArray)), (.string (⟨#[]⟩ : ByteArray)), (.slice none 0 0), (.int .i64 0), (.slice none 0 0)] : Array Value) (0, 0) _ rfl (pP B3.out) Try.underlying27 rfl (by kernel_rfl)) rfl ?_
 exact ⟨.inr ⟨H0.out, rfl⟩, pB HB.out⟩
set_option maxHeartbeats 2000000 in
set_option maxRecDepth 100000 in
theorem done_calls (k : Nat) (ky nm : ByteArray) (A1 : Option Addr) (c1 : Nat) (ts : List S49) (is : Int) (A2 : Option Addr) (c2 : Nat) (xs : List S51) (now a4 : Int) (a8 : ByteArray) (r : Int × Int × List S51) (w : World) (hT : Kd.C k49 w A1 ts.length ts) (ht : ts.length ≤ c1) (hC : Kd.C k51 w A2 xs.length xs) (h : heldO k ky nm ts is xs now a4 (doneA a8) = some r) :
  Calls Try.prog 20 #[.agg #[(.string ky), (.string nm), (.slice A1 ts.length c1), (.int .i64 is), (.slice A2 xs.length c2)], .int .i64 now, .int .i64 a4, .string a8] w fun e w' => runPost ky nm A1 c1 ts A2 c2 xs w r e w' := by
 have d7 := Try.underlying27
 have HC := am hC
 have HT := am hT
 have c6 := am ht
 have HH := am h
 have HB := am (Below.refl w.heap.size w)
 clear hT hC h ht
 by_cases h0 : r.1 = 0
 ·
  have H0 := am h0
  clear h0
  go_enter Try.func20, Try.ntmps20
  go_wp2_with (first | ((with_reducible refine gD 4 ?_); refine bz 4 (#[(.string ky), (.string nm), (.slice A1 ts.length c1), (.int .i64 is), (.slice A2 xs.length c2)] : Array Value) 27 HB ?_; clear HB; intro g1 hg b7 hb B1 a9 HB; clear hb hg) | ((with_reducible refine gD 7 ?_); refine bz 7 (#[(.string a8)] : Array Value) 9 HB ?_; clear HB; intro g2 hg b8 hb B2 b5 HB; have a0 := nP hg B1; have a5 := am a0.out.symm; replace B1 := kP B1 hb; clear hb hg) | ((with_reducible refine gD 8 ?_); refine bz 8 (#[(.string (⟨#[]⟩ : ByteArray)), (.string (⟨#[]⟩ : ByteArray)), (.slice none 0 0), (.int .i64 0), (.slice none 0 0)] : Array Value) 27 HB ?_; clear HB; intro g3 hg b9 hb B3 b6 HB; have a1 := nP hg B1; have a6 := am a1.out.symm; have a2 := nP hg B2; have a7 := am a2.out.symm; replace B1 := kP B1 hb; replace B2 := kP B2 hb; clear hb hg; obtain ⟨b0, b1, b2, b3, b4⟩ := ce5 B1.out) | (go_at_call 50; refine (q3o 53 _ Try.func53 (by kernel_rfl) rfl #[.pointer (some ⟨g2, 0, none⟩)] (doneA a8) k ky nm A1 c1 ts is A2 c2 xs now a4 r _ (Kd.C_below HT.out HB.out) c6.out (Kd.C_below HC.out HB.out) (fun t s p A0 c0 ha hl W hW hA => donec_calls  a8 g2 t s p A0 c0 ha hl W hA (q0c B2.out hW)) HH.out).mono ?_; rintro e w3 a3; obtain ⟨⟨v3, rfl, ho⟩, hb⟩ := runPost_ok H0.out a3; obtain ⟨A3, c3, e3⟩ := q1k.slice ho; subst e3; have H3 := am (q1k.base ho (q0m HB.out)); clear a3; replace B3 := kP B3 hb; replace HB := bS HB hb; clear B1 B2 b0 b1 b2 b3 b4 hb; obtain ⟨d0, d1, d2, d3, d4⟩ := ce5 B3.out; obtain ⟨c7, c8, c9, d5, d6⟩ := z5 B3.out; clear ho))
  refine bodyPost_ret (q0v rfl _ _ g3 27 (#[(.string ky), (.string nm), (.slice A1 ts.length c1), (.int .i64 r.2.1), (.slice A3 r.2.2.length c3)] : Array Value) (0, 0) _ rfl (pP B3.out) Try.underlying27 rfl (by kernel_rfl)) rfl ?_
  exact ⟨.inl ⟨H0.out, _, rfl, (q1k.set (q1k.set (q1k.set (q1k.set (q1k.set H3.out (pP (cs' := #[(.string (⟨#[]⟩ : ByteArray)), (.string (⟨#[]⟩ : ByteArray)), (.slice none 0 0), (.int .i64 0), (.slice none 0 0)]) B3.out) (by decide) _ _) (pP (cs' := #[(.string ky), (.string (⟨#[]⟩ : ByteArray)), (.slice none 0 0), (.int .i64 0), (.slice none 0 0)]) B3.out) (by decide) _ _) (pP (cs' := #[(.string ky), (.string nm), (.slice none 0 0), (.int .i64 0), (.slice none 0 0)]) B3.out) (by decide) _ _) (pP (cs' := #[(.string ky), (.string nm), (.slice A1 ts.length c1), (.int .i64 0), (.slice none 0 0)]) B3.out) (by decide) _ _) (pP (cs' := #[(.string ky), (.string nm), (.slice A1 ts.length c1), (.int .i64 r.2.1), (.slice none 0 0)]) B3.out) (by decide) _ _)⟩, pB HB.out⟩
 have H0 := am h0
 clear h0
 go_enter Try.func20, Try.ntmps20
 go_wp2_with (first | ((with_reducible refine gD 4 ?_); refine bz 4 (#[(.string ky), (.string nm), (.slice A1 ts.length c1), (.int .i64 is), (.slice A2 xs.length c2)] : Array Value) 27 HB ?_; clear HB; intro g1 hg b7 hb B1 a9 HB; clear hb hg) | ((with_reducible refine gD 7 ?_); refine bz 7 (#[(.string a8)] : Array Value) 9 HB ?_; clear HB; intro g2 hg b8 hb B2 b5 HB; have a0 := nP hg B1; have a5 := am a0.out.symm; replace B1 := kP B1 hb; clear hb hg) | ((with_reducible refine gD 8 ?_); refine bz 8 (#[(.string (⟨#[]⟩ : ByteArray)), (.string (⟨#[]⟩ : ByteArray)), (.slice none 0 0), (.int .i64 0), (.slice none 0 0)] : Array Value) 27 HB ?_; clear HB; intro g3 hg b9 hb B3 b6 HB; have a1 := nP hg B1; have a6 := am a1.out.symm; have a2 := nP hg B2; have a7 := am a2.out.symm; replace B1 := kP B1 hb; replace B2 := kP B2 hb; clear hb hg; obtain ⟨b0, b1, b2, b3, b4⟩ := ce5 B1.out) | (go_at_call 50; refine (q3o 53 _ Try.func53 (by kernel_rfl) rfl #[.pointer (some ⟨g2, 0, none⟩)] (doneA a8) k ky nm A1 c1 ts is A2 c2 xs now a4 r _ (Kd.C_below HT.out HB.out) c6.out (Kd.C_below HC.out HB.out) (fun t s p A0 c0 ha hl W hW hA => donec_calls  a8 g2 t s p A0 c0 ha hl W hA (q0c B2.out hW)) HH.out).mono ?_; rintro e w3 a3; obtain ⟨rfl, hb⟩ := q4h H0.out a3; clear a3; replace B3 := kP B3 hb; replace HB := bS HB hb; clear B1 B2 b0 b1 b2 b3 b4 hb; obtain ⟨d0, d1, d2, d3, d4⟩ := ce5 B3.out; obtain ⟨c7, c8, c9, d5, d6⟩ := z5 B3.out))
 refine bodyPost_ret (q0v rfl _ _ g3 27 (#[(.string (⟨#[]⟩ : ByteArray)), (.string (⟨#[]⟩ : ByteArray)), (.slice none 0 0), (.int .i64 0), (.slice none 0 0)] : Array Value) (0, 0) _ rfl (pP B3.out) Try.underlying27 rfl (by kernel_rfl)) rfl ?_
 exact ⟨.inr ⟨H0.out, rfl⟩, pB HB.out⟩
namespace X
theorem Gn.calls (k : Nat) (b0 b1 : ByteArray) (a0 : Nat → Prop) (a8 : Option Addr) (b3 : Nat) (a4 : List S49) (b2 : Int) (a3 : Nat → Prop) (a9 : Option Addr) (b4 : Nat) (a5 : List S51) (a1 a2 : Int) (r1 r2 : ByteArray) (r3 : List S49) (r4 : Int) (r5 : List S51) (r6 : Int) (w : World) (a6 : Kd.V k49 49 w w.heap.size (fun k_ => a0 k_) (.slice a8 a4.length b3) a4) (a7 : Kd.V k51 51 w w.heap.size (fun k_ => a3 k_) (.slice a9 a5.length b4) a5) (h : Gn.f k b0 b1 a4 b2 a5 a1 a2 = some (r1, r2, r3, r4, r5, r6)) :
  Calls Try.prog 19 #[.agg #[.string b0, .string b1, .slice a8 a4.length b3, .int .i64 b2, .slice a9 a5.length b4], .int .i64 a1, .int .i64 a2] w fun e w' => ∃ b5 b6 : Value, e = .returned (.tuple #[.agg #[.string r1, .string r2, b5, .int .i64 r4, b6], .int .i64 r6]) ∧ Kd.V k49 49 w' w.heap.size (fun k_ => ((a0 k_ ∨ a3 k_) ∨ w.heap.size ≤ k_)) b5 r3 ∧ Kd.V k51 51 w' w.heap.size (fun k_ => ((a0 k_ ∨ a3 k_) ∨ w.heap.size ≤ k_)) b6 r5 ∧ Below w.heap.size w w' := by
 obtain ⟨o, ho, h⟩ := Option.bind_eq_some_iff.1 h
 obtain ⟨_, b8, b7⟩ := Kd.V_reads' a6
 refine (beat_calls k b0 b1 a8 b3 a4 b2 a9 b4 a5 a1 a2 o w b7 b8 (Kd.V_reads' a7).2.2 ho).mono ?_
 rintro e w' h1
 exact V_of_run a6 a7 h1 (Option.some.inj h)
theorem Gq.calls (k : Nat) (b0 b1 : ByteArray) (a0 : Nat → Prop) (a8 : Option Addr) (b3 : Nat) (a4 : List S49) (b2 : Int) (a3 : Nat → Prop) (a9 : Option Addr) (b4 : Nat) (a5 : List S51) (a1 a2 : Int) (r1 r2 : ByteArray) (r3 : List S49) (r4 : Int) (r5 : List S51) (r6 : Int) (w : World) (a6 : Kd.V k49 49 w w.heap.size (fun k_ => a0 k_) (.slice a8 a4.length b3) a4) (a7 : Kd.V k51 51 w w.heap.size (fun k_ => a3 k_) (.slice a9 a5.length b4) a5) (h : Gq.f k b0 b1 a4 b2 a5 a1 a2 = some (r1, r2, r3, r4, r5, r6)) :
  Calls Try.prog 21 #[.agg #[.string b0, .string b1, .slice a8 a4.length b3, .int .i64 b2, .slice a9 a5.length b4], .int .i64 a1, .int .i64 a2] w fun e w' => ∃ b5 b6 : Value, e = .returned (.tuple #[.agg #[.string r1, .string r2, b5, .int .i64 r4, b6], .int .i64 r6]) ∧ Kd.V k49 49 w' w.heap.size (fun k_ => ((a0 k_ ∨ a3 k_) ∨ w.heap.size ≤ k_)) b5 r3 ∧ Kd.V k51 51 w' w.heap.size (fun k_ => ((a0 k_ ∨ a3 k_) ∨ w.heap.size ≤ k_)) b6 r5 ∧ Below w.heap.size w w' := by
 obtain ⟨o, ho, h⟩ := Option.bind_eq_some_iff.1 h
 obtain ⟨_, b8, b7⟩ := Kd.V_reads' a6
 refine (fail_calls k b0 b1 a8 b3 a4 b2 a9 b4 a5 a1 a2 o w b7 b8 (Kd.V_reads' a7).2.2 ho).mono ?_
 rintro e w' h1
 exact V_of_run a6 a7 h1 (Option.some.inj h)
theorem Gp.calls (k : Nat) (b1 b2 : ByteArray) (a0 : Nat → Prop) (a9 : Option Addr) (b4 : Nat) (a5 : List S49) (b3 : Int) (a4 : Nat → Prop) (b0 : Option Addr) (b5 : Nat) (a6 : List S51) (a1 a2 : Int) (a3 : ByteArray) (r1 r2 : ByteArray) (r3 : List S49) (r4 : Int) (r5 : List S51) (r6 : Int) (w : World) (a7 : Kd.V k49 49 w w.heap.size (fun k_ => a0 k_) (.slice a9 a5.length b4) a5) (a8 : Kd.V k51 51 w w.heap.size (fun k_ => a4 k_) (.slice b0 a6.length b5) a6) (h : Gp.f k b1 b2 a5 b3 a6 a1 a2 a3 = some (r1, r2, r3, r4, r5, r6)) :
  Calls Try.prog 20 #[.agg #[.string b1, .string b2, .slice a9 a5.length b4, .int .i64 b3, .slice b0 a6.length b5], .int .i64 a1, .int .i64 a2, .string a3] w fun e w' => ∃ b6 b7 : Value, e = .returned (.tuple #[.agg #[.string r1, .string r2, b6, .int .i64 r4, b7], .int .i64 r6]) ∧ Kd.V k49 49 w' w.heap.size (fun k_ => ((a0 k_ ∨ a4 k_) ∨ w.heap.size ≤ k_)) b6 r3 ∧ Kd.V k51 51 w' w.heap.size (fun k_ => ((a0 k_ ∨ a4 k_) ∨ w.heap.size ≤ k_)) b7 r5 ∧ Below w.heap.size w w' := by
 obtain ⟨o, ho, h⟩ := Option.bind_eq_some_iff.1 h
 obtain ⟨_, b9, b8⟩ := Kd.V_reads' a7
 refine (done_calls k b1 b2 a9 b4 a5 b3 b0 b5 a6 a1 a2 a3 o w b8 b9 (Kd.V_reads' a8).2.2 ho).mono ?_
 rintro e w' h1
 exact V_of_run a7 a8 h1 (Option.some.inj h)
end X
end Go.Proofs.Ytabmkighhmchmaa
namespace Go.Proofs.Ytabmkighhmchmaa.X
open Go.RowKit Go.YW.PrintWords Go.YW.PrintLast Go.YW.PrintMore Go.YW.Sq
attribute [local go_sem] q1a q0x q1d q1c q0t q0s q0y q0w
set_option linter.unusedVariables false
set_option linter.unusedSimpArgs false
def Fp.l0 : Nat → List Int → List Int → Int → Int → Option (Bool)
 | 0, _, _, _, _ => none
 | k + 1, x0, x1, a1, a0 => if a0 < a1 then (if 0 ≤ a0 then (if a0 < (x0.length : Int) then (if a0 < (x1.length : Int) then (if (rd x0 a0) = (rd x1 a0) then (Fp.l0 k x0 x1 a1 (wrap64 (a0 + 1))) else (some false)) else (none)) else (none)) else (none)) else (some true)
def Fp.f (k : Nat) (l0 : List Int) (l1 : List Int) : Option (Bool) := if (l0.length : Int) = (l1.length : Int) then (Fp.l0 k l0 l1 (l0.length : Int) 0) else (some false)
set_option maxHeartbeats 8000000 in
set_option maxRecDepth 100000 in
theorem Fp.calls (k : Nat) (A0 : Option Addr) (c0 : Nat) (l0 : List Int) (A1 : Option Addr) (c1 : Nat) (l1 : List Int) (r : Bool) (w : World) (d1 : Kd.C (Kd.int .i64) w A0 l0.length l0) (c9 : l0.length ≤ c0) (d2 : Kd.C (Kd.int .i64) w A1 l1.length l1) (d0 : l1.length ≤ c1) (h : Fp.f k l0 l1 = some r) :
  Calls Try.prog 73 #[.slice A0 l0.length c0, .slice A1 l1.length c1] w fun e w' => e = .returned (.bool r) ∧ q0r w w' := by
 have b8 := am d1
 have d7 := am c9
 clear d1 c9
 have b9 := am d2
 have d8 := am d0
 clear d2 d0
 unfold Fp.f at h
 have H := h
 clear h
 by_cases c3 : (l0.length : Int) = (l1.length : Int)
 ·
  rw [if_pos c3] at H
  obtain ⟨b1, b2⟩ := qt c3
  have b3 : (l0.length == l1.length) = true := by first | simpa using c3 | (simp at c3 ⊢; omega)
  clear c3
  have H' := am H
  clear H
  go_enter Try.func73, Try.ntmps73
  go_wp2
  repeat (go_quiet (fail); try go_wp2)
  go_loopg [13] k (fun kq d6 w' => ∃ (a0 : Int), d6 = .int .i64 a0 ∧ q0e (Fp.l0 kq l0 l1 (l0.length : Int) a0 = some r) ∧ q0e (kq ≤ k) ∧ q0r w w')
  case atStart => exact ⟨(0), el, H', ⟨Nat.le_refl _⟩, by repeat (first | exact q0r.refl _ | apply q0r.step)⟩
  case round =>
   clear H'
   try clear c1
   try clear c3
   try clear b1
   try clear b2
   try clear b3
   obtain ⟨a0, rfl, HA, b7, ⟨m1, rfl⟩⟩ := hrel
   cases gk with
   | zero => exact absurd HA.out (by simp [Fp.l0])
   | succ k1 =>
    have H := HA.out
    clear HA
    simp only [Fp.l0] at H
    by_cases c4 : a0 < (l0.length : Int)
    ·
     rw [if_pos c4] at H
     have b4 := decide_eq_true c4
     clear c4
     by_cases c5 : 0 ≤ a0
     ·
      rw [if_pos c5] at H
      have d3 := decide_eq_true c5
      clear c5
      by_cases c6 : a0 < (l0.length : Int)
      ·
       rw [if_pos c6] at H
       have d4 := decide_eq_true c6
       clear c6
       by_cases c7 : a0 < (l1.length : Int)
       ·
        rw [if_pos c7] at H
        have d5 := decide_eq_true c7
        clear c7
        by_cases c8 : (rd l0 a0) = (rd l1 a0)
        ·
         rw [if_pos c8] at H
         obtain ⟨b5, b6⟩ := qt c8
         clear c8
         have H' := am H
         clear H
         have a1 : 0 ≤ (a0 : Int) := od
         have a3 : a0 < (l0.length : Int) := od
         obtain ⟨a9, a7, a5⟩ := Kd.at_int b8.out a0 a1 a3
         cases a7
         replace a1 := eq_true a1
         replace a3 := eq_true a3
         have a2 : 0 ≤ (a0 : Int) := od
         have a4 : a0 < (l1.length : Int) := od
         obtain ⟨b0, a8, a6⟩ := Kd.at_int b9.out a0 a2 a4
         cases a8
         replace a2 := eq_true a2
         replace a4 := eq_true a4
         go_wp2
         repeat (go_quiet (fail); try go_wp2)
         go_roundg k1
         case measure => have := b7.out; omega
         case rel => exact ⟨(wrap64 (a0 + 1)), el, H', ⟨by have := b7.out; omega⟩, by repeat (first | exact q0r.refl _ | apply q0r.step)⟩
        rw [if_neg c8] at H
        obtain ⟨b5, b6⟩ := qf c8
        obtain rfl := Option.some.inj H
        have a1 : 0 ≤ (a0 : Int) := od
        have a3 : a0 < (l0.length : Int) := od
        obtain ⟨a9, a7, a5⟩ := Kd.at_int b8.out a0 a1 a3
        cases a7
        replace a1 := eq_true a1
        replace a3 := eq_true a3
        have a2 : 0 ≤ (a0 : Int) := od
        have a4 : a0 < (l1.length : Int) := od
        obtain ⟨b0, a8, a6⟩ := Kd.at_int b9.out a0 a2 a4
        cases a8
        replace a2 := eq_true a2
        replace a4 := eq_true a4
        go_wp2
        repeat (go_quiet (fail); try go_wp2)
        go_ret
        exact ⟨by first | rfl | (simp; done) | (simp [*]; done), by repeat (first | exact q0r.refl _ | apply q0r.step)⟩
       rw [if_neg c7] at H
       exact absurd H (by simp)
      rw [if_neg c6] at H
      exact absurd H (by simp)
     rw [if_neg c5] at H
     exact absurd H (by simp)
    rw [if_neg c4] at H
    have b4 := decide_eq_false c4
    clear c4
    obtain rfl := Option.some.inj H
    go_wp2
    repeat (go_quiet (fail); try go_wp2)
    go_ret
    exact ⟨by first | rfl | (simp; done) | (simp [*]; done), by repeat (first | exact q0r.refl _ | apply q0r.step)⟩
 rw [if_neg c3] at H
 obtain ⟨b1, b2⟩ := qf c3
 have b3 : (l0.length == l1.length) = false := by first | simpa using c3 | (simp at c3 ⊢; omega)
 obtain rfl := Option.some.inj H
 go_enter Try.func73, Try.ntmps73
 go_wp2
 repeat (go_quiet (fail); try go_wp2)
 go_ret
 exact ⟨by first | rfl | (simp; done) | (simp [*]; done), by repeat (first | exact q0r.refl _ | apply q0r.step)⟩
mutual
def Fr.j0 : Nat → Bool → ByteArray → List (S49) → ByteArray → List (S49) → Option (Bool)
 | 0, _, _, _, _, _ => none
 | k + 1, a4, a3, a0, a1, a2 => if a4 = true then (some false) else (Fr.l0 k a0 (a0.length : Int) 0 a1 a2)
def Fr.l0 : Nat → List (S49) → Int → Int → ByteArray → List (S49) → Option (Bool)
 | 0, _, _, _, _, _ => none
 | k + 1, a3, a5, a1, a2, a0 => if a1 < a5 then (if 0 ≤ a1 then (if a1 < (a3.length : Int) then (if a1 < (a0.length : Int) then ((Fp.f k ((q0d a3 a1).f0) ((q0d a0 a1).f0)).bind fun a4 => (if a4 = true then (if ((q0d a3 a1).f1) = ((q0d a0 a1).f1) then (if ((q0d a3 a1).f2) = ((q0d a0 a1).f2) then (if ((q0d a3 a1).f3) = ((q0d a0 a1).f3) then (Fr.l0 k a3 a5 (wrap64 (a1 + 1)) a2 a0) else (some false)) else (some false)) else (some false)) else (some false))) else (none)) else (none)) else (none)) else (some true)
end
def Fr.f (k : Nat) (a0 : ByteArray) (a2 : List (S49)) (a1 : ByteArray) (a3 : List (S49)) : Option (Bool) := if a0.toList = a1.toList then (Fr.j0 k ((a2.length : Int) != (a3.length : Int)) a0 a2 a1 a3) else (Fr.j0 k true a0 a2 a1 a3)
set_option maxHeartbeats 8000000 in
set_option maxRecDepth 100000 in
theorem Fr.calls (k : Nat) (g7 : ByteArray) (h2 : Option Addr) (h4 : Nat) (a3 : List (S49)) (g6 : ByteArray) (h3 : Option Addr) (h5 : Nat) (d8 : List (S49)) (r : Bool) (w : World) (i2 : Kd.C k49 w h2 a3.length a3) (i0 : a3.length ≤ h4) (i3 : Kd.C k49 w h3 d8.length d8) (i1 : d8.length ≤ h5) (h : Fr.f k g7 a3 g6 d8 = some r) :
  Calls Try.prog 33 #[.agg #[.string g7, .slice h2 a3.length h4], .agg #[.string g6, .slice h3 d8.length h5]] w fun e w' => e = .returned (.bool r) ∧ Below w.heap.size w w' := by
 have r5 := Try.underlying24
 have r6 := Try.underlying49
 have g4 := am i2
 have n4 := am i0
 clear i2 i0
 have g5 := am i3
 have n5 := am i1
 clear i3 i1
 have HB := am (Below.refl w.heap.size w)
 unfold Fr.f at h
 have H := h
 clear h
 have m7 := am H
 clear H
 go_enter Try.func33, Try.ntmps33
 go_upto_region 1 with (first | ((with_reducible refine gD 2 ?_); (try (refine q1g (by rfl) ?_; dsimp only)); refine bz 2 #[.string g7, .slice h2 a3.length h4] 24 HB ?_; clear HB; intro h8 hg w4 hb a9 n2 HB; clear hb hg) | ((with_reducible refine gD 3 ?_); (try (refine q1g (by rfl) ?_; dsimp only)); refine bz 3 #[.string g6, .slice h3 d8.length h5] 24 HB ?_; clear HB; intro h9 hg w5 hb b0 n3 HB; have g1 := nL hg a9; have e4 := nG hg a9; replace a9 := kB a9 hb; clear hb hg))
 (try simp only [Act.put, List.setIfInBounds_toArray, List.set_cons_zero, List.set_cons_succ])
 go_cut [21] (fun r7 wc => ∃ (kq : Nat) (h0 : Bool), r7 = .bool h0 ∧ q0e (Fr.j0 kq h0 g7 a3 g6 d8 = some r) ∧ q0e (kq ≤ k) ∧ q0e (wc.heap[h8]? = some (.cells #[.string g7, (.slice h2 a3.length h4)] 24 (0, 0))) ∧ q0e (wc.heap[h9]? = some (.cells #[.string g6, (.slice h3 d8.length h5)] 24 (0, 0))) ∧ q0e (Below w.heap.size w wc))
 case first =>
  have H := m7.out
  clear m7
  by_cases c6 : g7.toList = g6.toList
  ·
   rw [if_pos c6] at H
   have h6 := beq_iff_eq.mpr c6
   have m8 := bne_eq_false_iff_eq.mpr c6
   clear c6
   (first | rw [h6] | (simp only [q1x, q2b]; rw [h6]) | skip)
   have H' := am H
   clear H
   have r4 := nn g1
   have m9 := y2 a9
   have n0 := y2 b0
   go_wp2
   go_meet
   case rel => exact ⟨_, (((a3.length : Int) != (d8.length : Int))), el, H', ol, ⟨pk a9.out⟩, ⟨pk b0.out⟩, ⟨pB HB.out⟩⟩
  rw [if_neg c6] at H
  have h6 := beq_eq_false_iff_ne.mpr c6
  have m8 := bne_iff_ne.mpr c6
  (first | rw [h6] | (simp only [q1x, q2b]; rw [h6]) | skip)
  have H' := am H
  clear H
  have o1 := nn g1
  have k4 := y2 a9
  have k5 := y2 b0
  go_wp2
  go_meet
  case rel => exact ⟨_, (true), el, H', ol, ⟨pk a9.out⟩, ⟨pk b0.out⟩, ⟨pB HB.out⟩⟩
 case rest =>
  clear m7
  obtain ⟨kq, h0, rfl, HA, n6, a9, b0, HB⟩ := hcut
  cases kq with
  | zero => exact absurd HA.out (by simp [Fr.j0])
  | succ r3 =>
   have H := HA.out
   clear HA
   simp only [Fr.j0] at H
   by_cases i7 : h0 = true
   ·
    subst i7
    rw [if_pos rfl] at H
    try dsimp only at H
    obtain rfl := Option.some.inj H
    go_wp2
    go_ret
    exact ⟨er, pB HB.out⟩
   replace i7 := Bool.eq_false_iff.mpr i7
   subst i7
   rw [if_neg (show ¬ (false = true) by decide)] at H
   try dsimp only at H
   have H' := am H
   clear H
   have o2 := nn g1
   have h7 := y2 a9
   go_wp2
   go_loopg [25] r3 (fun kq r8 w' => ∃ (a0 : Int), r8 = .int .i64 a0 ∧ q0e (Fr.l0 kq a3 (a3.length : Int) a0 g6 d8 = some r) ∧ q0e (kq ≤ r3) ∧ q0e (w'.heap[h8]? = some (.cells #[.string g7, (.slice h2 a3.length h4)] 24 (0, 0))) ∧ q0e (w'.heap[h9]? = some (.cells #[.string g6, (.slice h3 d8.length h5)] 24 (0, 0))) ∧ q0e (Below w.heap.size w w'))
   case atStart => exact ⟨(0), el, H', ⟨Nat.le_refl _⟩, ⟨pk a9.out⟩, ⟨pk b0.out⟩, ⟨pB HB.out⟩⟩
   case round =>
    clear H'
    try clear i7
    try clear h7
    try clear a9; try clear b0; try clear HB
    obtain ⟨a0, rfl, HA, n7, a9, b0, HB⟩ := hrel
    cases gk with
    | zero => exact absurd HA.out (by simp [Fr.l0])
    | succ k2 =>
     have H := HA.out
     clear HA
     simp only [Fr.l0] at H
     by_cases i4 : a0 < (a3.length : Int)
     ·
      rw [if_pos i4] at H
      have i8 := decide_eq_true i4
      clear i4
      by_cases j9 : 0 ≤ a0
      ·
       rw [if_pos j9] at H
       have n8 := decide_eq_true j9
       clear j9
       by_cases k0 : a0 < (a3.length : Int)
       ·
        rw [if_pos k0] at H
        have n9 := decide_eq_true k0
        clear k0
        by_cases k1 : a0 < (d8.length : Int)
        ·
         rw [if_pos k1] at H
         have o0 := decide_eq_true k1
         clear k1
         replace H := Option.bind_eq_some_iff.mp H
         obtain ⟨n1, i6, H⟩ := H
         try dsimp only at H
         have i5 := am i6
         clear i6
         by_cases k3 : n1 = true
         ·
          subst k3
          rw [if_pos rfl] at H
          try dsimp only at H
          by_cases i9 : ((q0d a3 a0).f1) = ((q0d d8 a0).f1)
          ·
           rw [if_pos i9] at H
           obtain ⟨j1, j2⟩ := qt i9
           clear i9
           by_cases j3 : ((q0d a3 a0).f2) = ((q0d d8 a0).f2)
           ·
            rw [if_pos j3] at H
            obtain ⟨j4, j5⟩ := qt j3
            clear j3
            by_cases j6 : ((q0d a3 a0).f3) = ((q0d d8 a0).f3)
            ·
             rw [if_pos j6] at H
             obtain ⟨j7, j8⟩ := qt j6
             clear j6
             have H' := am H
             clear H
             have e7 : 0 ≤ (a0 : Int) := od
             have e9 : a0 < (a3.length : Int) := od
             obtain ⟨g9, a7, a8, g2, c9, d0, d1, d2, c7, b8⟩ := q1r g4.out a0 e7 e9
             cases g2
             replace c9 := bX HB c9
             replace d0 := bX HB d0
             replace d1 := bX HB d1
             replace d2 := bX HB d2
             have e1 := am b8
             have d9 := am c7
             clear b8 c7
             replace e7 := eq_true e7
             replace e9 := eq_true e9
             go_wp2_with (first | ((with_reducible refine gD 6 ?_); (try (refine q1g (by rfl) ?_; dsimp only)); refine bz 6 #[.slice none 0 0, .int .i64 0, .int .i64 0, .int .i64 0] 49 HB ?_; clear HB; intro a1 hg r9 hb b5 b6 HB; have f5 := nL hg a9; have d3 := nG hg a9; replace a9 := kB a9 hb; have f7 := nL hg b0; have d4 := nG hg b0; replace b0 := kB b0 hb; clear hb hg; have o3 := nn d3; have o4 := nn d4; have k6 := y4 b5; have o5 := nn e4; have k7 := y2 b0; have e8 : 0 ≤ (a0 : Int) := od; have f4 : a0 < (d8.length : Int) := od; obtain ⟨b7, e5, e6, g3, a2, a4, a5, a6, c8, b9⟩ := q1r g5.out a0 e8 f4; cases g3; have b1 : b7.block ≠ a1 := Nat.ne_of_lt (Nat.lt_of_lt_of_le (by have := World.block_lt_of_cell? _ _ a2; first | rwa [add_block] at this | exact this) b6.out); have b2 : b7.block ≠ a1 := Nat.ne_of_lt (Nat.lt_of_lt_of_le (by have := World.block_lt_of_cell? _ _ a2; first | rwa [add_block] at this | exact this) b6.out); have b3 : b7.block ≠ a1 := Nat.ne_of_lt (Nat.lt_of_lt_of_le (by have := World.block_lt_of_cell? _ _ a2; first | rwa [add_block] at this | exact this) b6.out); have b4 : b7.block ≠ a1 := Nat.ne_of_lt (Nat.lt_of_lt_of_le (by have := World.block_lt_of_cell? _ _ a2; first | rwa [add_block] at this | exact this) b6.out); replace a2 := bX HB a2; replace a4 := bX HB a4; replace a5 := bX HB a5; replace a6 := bX HB a6; have e2 := am b9; have e0 := am c8; clear b9 c8; replace a2 := (cell_far (p := ⟨a1, 0, none⟩) (nb b1) (.slice a7 ((q0d a3 a0).f0).length a8)).trans a2; replace a4 := (cell_far (p := ⟨a1, 0, none⟩) (nb b1) (.slice a7 ((q0d a3 a0).f0).length a8)).trans a4; replace a5 := (cell_far (p := ⟨a1, 0, none⟩) (nb b1) (.slice a7 ((q0d a3 a0).f0).length a8)).trans a5; replace a6 := (cell_far (p := ⟨a1, 0, none⟩) (nb b1) (.slice a7 ((q0d a3 a0).f0).length a8)).trans a6; replace a2 := (cell_far (p := ⟨a1, 1, none⟩) (nb b2) (.int .i64 ((q0d a3 a0).f1))).trans a2; replace a4 := (cell_far (p := ⟨a1, 1, none⟩) (nb b2) (.int .i64 ((q0d a3 a0).f1))).trans a4; replace a5 := (cell_far (p := ⟨a1, 1, none⟩) (nb b2) (.int .i64 ((q0d a3 a0).f1))).trans a5; replace a6 := (cell_far (p := ⟨a1, 1, none⟩) (nb b2) (.int .i64 ((q0d a3 a0).f1))).trans a6; replace a2 := (cell_far (p := ⟨a1, 2, none⟩) (nb b3) (.int .i64 ((q0d a3 a0).f2))).trans a2; replace a4 := (cell_far (p := ⟨a1, 2, none⟩) (nb b3) (.int .i64 ((q0d a3 a0).f2))).trans a4; replace a5 := (cell_far (p := ⟨a1, 2, none⟩) (nb b3) (.int .i64 ((q0d a3 a0).f2))).trans a5; replace a6 := (cell_far (p := ⟨a1, 2, none⟩) (nb b3) (.int .i64 ((q0d a3 a0).f2))).trans a6; replace a2 := (cell_far (p := ⟨a1, 3, none⟩) (nb b4) (.int .i64 ((q0d a3 a0).f3))).trans a2; replace a4 := (cell_far (p := ⟨a1, 3, none⟩) (nb b4) (.int .i64 ((q0d a3 a0).f3))).trans a4; replace a5 := (cell_far (p := ⟨a1, 3, none⟩) (nb b4) (.int .i64 ((q0d a3 a0).f3))).trans a5; replace a6 := (cell_far (p := ⟨a1, 3, none⟩) (nb b4) (.int .i64 ((q0d a3 a0).f3))).trans a6; clear b1 b2 b3 b4; replace e8 := eq_true e8; replace f4 := eq_true f4) | ((with_reducible refine gD 7 ?_); (try (refine q1g (by rfl) ?_; dsimp only)); refine bz 7 #[.slice none 0 0, .int .i64 0, .int .i64 0, .int .i64 0] 49 HB ?_; clear HB; intro e3 hg s0 hb g0 g8 HB; have f6 := nL hg a9; have d5 := nG hg a9; replace a9 := kB a9 hb; have f8 := nL hg b0; have d6 := nG hg b0; replace b0 := kB b0 hb; have f9 := am ((by rw [hg]; exact Nat.ne_of_lt (q2i (g := a1) (o := .cells #[.slice a7 ((q0d a3 a0).f0).length a8, .int .i64 ((q0d a3 a0).f1), .int .i64 ((q0d a3 a0).f2), .int .i64 ((q0d a3 a0).f3)] 49 (0, 0)) (pP b5.out)) : a1 ≠ e3)); have d7 := am ((by rw [hg]; exact Nat.ne_of_gt (q2i (g := a1) (o := .cells #[.slice a7 ((q0d a3 a0).f0).length a8, .int .i64 ((q0d a3 a0).f1), .int .i64 ((q0d a3 a0).f2), .int .i64 ((q0d a3 a0).f3)] 49 (0, 0)) (pP b5.out)) : e3 ≠ a1)); replace b5 := am (q0c (g := a1) (o := .cells #[.slice a7 ((q0d a3 a0).f0).length a8, .int .i64 ((q0d a3 a0).f1), .int .i64 ((q0d a3 a0).f2), .int .i64 ((q0d a3 a0).f3)] 49 (0, 0)) (pP b5.out) hb); clear hb hg; have o6 := nn d5; have o7 := nn d6; have o8 := nn d7; have k8 := y4 g0; have k9 := y4 b5) | ((with_reducible refine gC 73 ?_); refine gL 39 Try.func73 #[.slice a7 ((q0d a3 a0).f0).length a8, .slice e5 ((q0d d8 a0).f0).length e6] ?_; (with_reducible refine (Fp.calls k2 _ _ ((q0d a3 a0).f0) _ _ ((q0d d8 a0).f0) true _ ?side1 ?side2 ?side3 ?side4 i5.out).mono ?_); (case side1 => exact Kd.C_below e1.out (pB HB.out)); (case side2 => exact d9.out); (case side3 => exact Kd.C_below e2.out (pB HB.out)); (case side4 => exact e0.out); rintro e w' ⟨rfl, ⟨nd, rfl⟩⟩; refine ⟨_, rfl, ?_⟩))
             go_roundg k2
             case measure => have := n6.out; have := n7.out; omega
             case rel => exact ⟨(wrap64 (a0 + 1)), el, H', ⟨by have := n6.out; have := n7.out; omega⟩, ⟨pk a9.out⟩, ⟨pk b0.out⟩, ⟨pB HB.out⟩⟩
            rw [if_neg j6] at H
            obtain ⟨j7, j8⟩ := qf j6
            obtain rfl := Option.some.inj H
            have e7 : 0 ≤ (a0 : Int) := od
            have e9 : a0 < (a3.length : Int) := od
            obtain ⟨g9, a7, a8, g2, c9, d0, d1, d2, c7, b8⟩ := q1r g4.out a0 e7 e9
            cases g2
            replace c9 := bX HB c9
            replace d0 := bX HB d0
            replace d1 := bX HB d1
            replace d2 := bX HB d2
            have e1 := am b8
            have d9 := am c7
            clear b8 c7
            replace e7 := eq_true e7
            replace e9 := eq_true e9
            go_wp2_with (first | ((with_reducible refine gD 6 ?_); (try (refine q1g (by rfl) ?_; dsimp only)); refine bz 6 #[.slice none 0 0, .int .i64 0, .int .i64 0, .int .i64 0] 49 HB ?_; clear HB; intro a1 hg s1 hb b5 b6 HB; have f5 := nL hg a9; have d3 := nG hg a9; replace a9 := kB a9 hb; have f7 := nL hg b0; have d4 := nG hg b0; replace b0 := kB b0 hb; clear hb hg; have o9 := nn d3; have p0 := nn d4; have l1 := y4 b5; have p1 := nn e4; have l2 := y2 b0; have e8 : 0 ≤ (a0 : Int) := od; have f4 : a0 < (d8.length : Int) := od; obtain ⟨b7, e5, e6, g3, a2, a4, a5, a6, c8, b9⟩ := q1r g5.out a0 e8 f4; cases g3; have b1 : b7.block ≠ a1 := Nat.ne_of_lt (Nat.lt_of_lt_of_le (by have := World.block_lt_of_cell? _ _ a2; first | rwa [add_block] at this | exact this) b6.out); have b2 : b7.block ≠ a1 := Nat.ne_of_lt (Nat.lt_of_lt_of_le (by have := World.block_lt_of_cell? _ _ a2; first | rwa [add_block] at this | exact this) b6.out); have b3 : b7.block ≠ a1 := Nat.ne_of_lt (Nat.lt_of_lt_of_le (by have := World.block_lt_of_cell? _ _ a2; first | rwa [add_block] at this | exact this) b6.out); have b4 : b7.block ≠ a1 := Nat.ne_of_lt (Nat.lt_of_lt_of_le (by have := World.block_lt_of_cell? _ _ a2; first | rwa [add_block] at this | exact this) b6.out); replace a2 := bX HB a2; replace a4 := bX HB a4; replace a5 := bX HB a5; replace a6 := bX HB a6; have e2 := am b9; have e0 := am c8; clear b9 c8; replace a2 := (cell_far (p := ⟨a1, 0, none⟩) (nb b1) (.slice a7 ((q0d a3 a0).f0).length a8)).trans a2; replace a4 := (cell_far (p := ⟨a1, 0, none⟩) (nb b1) (.slice a7 ((q0d a3 a0).f0).length a8)).trans a4; replace a5 := (cell_far (p := ⟨a1, 0, none⟩) (nb b1) (.slice a7 ((q0d a3 a0).f0).length a8)).trans a5; replace a6 := (cell_far (p := ⟨a1, 0, none⟩) (nb b1) (.slice a7 ((q0d a3 a0).f0).length a8)).trans a6; replace a2 := (cell_far (p := ⟨a1, 1, none⟩) (nb b2) (.int .i64 ((q0d a3 a0).f1))).trans a2; replace a4 := (cell_far (p := ⟨a1, 1, none⟩) (nb b2) (.int .i64 ((q0d a3 a0).f1))).trans a4; replace a5 := (cell_far (p := ⟨a1, 1, none⟩) (nb b2) (.int .i64 ((q0d a3 a0).f1))).trans a5; replace a6 := (cell_far (p := ⟨a1, 1, none⟩) (nb b2) (.int .i64 ((q0d a3 a0).f1))).trans a6; replace a2 := (cell_far (p := ⟨a1, 2, none⟩) (nb b3) (.int .i64 ((q0d a3 a0).f2))).trans a2; replace a4 := (cell_far (p := ⟨a1, 2, none⟩) (nb b3) (.int .i64 ((q0d a3 a0).f2))).trans a4; replace a5 := (cell_far (p := ⟨a1, 2, none⟩) (nb b3) (.int .i64 ((q0d a3 a0).f2))).trans a5; replace a6 := (cell_far (p := ⟨a1, 2, none⟩) (nb b3) (.int .i64 ((q0d a3 a0).f2))).trans a6; replace a2 := (cell_far (p := ⟨a1, 3, none⟩) (nb b4) (.int .i64 ((q0d a3 a0).f3))).trans a2; replace a4 := (cell_far (p := ⟨a1, 3, none⟩) (nb b4) (.int .i64 ((q0d a3 a0).f3))).trans a4; replace a5 := (cell_far (p := ⟨a1, 3, none⟩) (nb b4) (.int .i64 ((q0d a3 a0).f3))).trans a5; replace a6 := (cell_far (p := ⟨a1, 3, none⟩) (nb b4) (.int .i64 ((q0d a3 a0).f3))).trans a6; clear b1 b2 b3 b4; replace e8 := eq_true e8; replace f4 := eq_true f4) | ((with_reducible refine gD 7 ?_); (try (refine q1g (by rfl) ?_; dsimp only)); refine bz 7 #[.slice none 0 0, .int .i64 0, .int .i64 0, .int .i64 0] 49 HB ?_; clear HB; intro e3 hg s2 hb g0 g8 HB; have f6 := nL hg a9; have d5 := nG hg a9; replace a9 := kB a9 hb; have f8 := nL hg b0; have d6 := nG hg b0; replace b0 := kB b0 hb; have f9 := am ((by rw [hg]; exact Nat.ne_of_lt (q2i (g := a1) (o := .cells #[.slice a7 ((q0d a3 a0).f0).length a8, .int .i64 ((q0d a3 a0).f1), .int .i64 ((q0d a3 a0).f2), .int .i64 ((q0d a3 a0).f3)] 49 (0, 0)) (pP b5.out)) : a1 ≠ e3)); have d7 := am ((by rw [hg]; exact Nat.ne_of_gt (q2i (g := a1) (o := .cells #[.slice a7 ((q0d a3 a0).f0).length a8, .int .i64 ((q0d a3 a0).f1), .int .i64 ((q0d a3 a0).f2), .int .i64 ((q0d a3 a0).f3)] 49 (0, 0)) (pP b5.out)) : e3 ≠ a1)); replace b5 := am (q0c (g := a1) (o := .cells #[.slice a7 ((q0d a3 a0).f0).length a8, .int .i64 ((q0d a3 a0).f1), .int .i64 ((q0d a3 a0).f2), .int .i64 ((q0d a3 a0).f3)] 49 (0, 0)) (pP b5.out) hb); clear hb hg; have p2 := nn d5; have p3 := nn d6; have p4 := nn d7; have l3 := y4 g0; have l4 := y4 b5) | ((with_reducible refine gC 73 ?_); refine gL 39 Try.func73 #[.slice a7 ((q0d a3 a0).f0).length a8, .slice e5 ((q0d d8 a0).f0).length e6] ?_; (with_reducible refine (Fp.calls k2 _ _ ((q0d a3 a0).f0) _ _ ((q0d d8 a0).f0) true _ ?side1 ?side2 ?side3 ?side4 i5.out).mono ?_); (case side1 => exact Kd.C_below e1.out (pB HB.out)); (case side2 => exact d9.out); (case side3 => exact Kd.C_below e2.out (pB HB.out)); (case side4 => exact e0.out); rintro e w' ⟨rfl, ⟨nd, rfl⟩⟩; refine ⟨_, rfl, ?_⟩))
            go_ret
            exact ⟨er, pB HB.out⟩
           rw [if_neg j3] at H
           obtain ⟨j4, j5⟩ := qf j3
           obtain rfl := Option.some.inj H
           have e7 : 0 ≤ (a0 : Int) := od
           have e9 : a0 < (a3.length : Int) := od
           obtain ⟨g9, a7, a8, g2, c9, d0, d1, d2, c7, b8⟩ := q1r g4.out a0 e7 e9
           cases g2
           replace c9 := bX HB c9
           replace d0 := bX HB d0
           replace d1 := bX HB d1
           replace d2 := bX HB d2
           have e1 := am b8
           have d9 := am c7
           clear b8 c7
           replace e7 := eq_true e7
           replace e9 := eq_true e9
           go_wp2_with (first | ((with_reducible refine gD 6 ?_); (try (refine q1g (by rfl) ?_; dsimp only)); refine bz 6 #[.slice none 0 0, .int .i64 0, .int .i64 0, .int .i64 0] 49 HB ?_; clear HB; intro a1 hg s3 hb b5 b6 HB; have f5 := nL hg a9; have d3 := nG hg a9; replace a9 := kB a9 hb; have f7 := nL hg b0; have d4 := nG hg b0; replace b0 := kB b0 hb; clear hb hg; have p5 := nn d3; have p6 := nn d4; have l5 := y4 b5; have p7 := nn e4; have l6 := y2 b0; have e8 : 0 ≤ (a0 : Int) := od; have f4 : a0 < (d8.length : Int) := od; obtain ⟨b7, e5, e6, g3, a2, a4, a5, a6, c8, b9⟩ := q1r g5.out a0 e8 f4; cases g3; have b1 : b7.block ≠ a1 := Nat.ne_of_lt (Nat.lt_of_lt_of_le (by have := World.block_lt_of_cell? _ _ a2; first | rwa [add_block] at this | exact this) b6.out); have b2 : b7.block ≠ a1 := Nat.ne_of_lt (Nat.lt_of_lt_of_le (by have := World.block_lt_of_cell? _ _ a2; first | rwa [add_block] at this | exact this) b6.out); have b3 : b7.block ≠ a1 := Nat.ne_of_lt (Nat.lt_of_lt_of_le (by have := World.block_lt_of_cell? _ _ a2; first | rwa [add_block] at this | exact this) b6.out); have b4 : b7.block ≠ a1 := Nat.ne_of_lt (Nat.lt_of_lt_of_le (by have := World.block_lt_of_cell? _ _ a2; first | rwa [add_block] at this | exact this) b6.out); replace a2 := bX HB a2; replace a4 := bX HB a4; replace a5 := bX HB a5; replace a6 := bX HB a6; have e2 := am b9; have e0 := am c8; clear b9 c8; replace a2 := (cell_far (p := ⟨a1, 0, none⟩) (nb b1) (.slice a7 ((q0d a3 a0).f0).length a8)).trans a2; replace a4 := (cell_far (p := ⟨a1, 0, none⟩) (nb b1) (.slice a7 ((q0d a3 a0).f0).length a8)).trans a4; replace a5 := (cell_far (p := ⟨a1, 0, none⟩) (nb b1) (.slice a7 ((q0d a3 a0).f0).length a8)).trans a5; replace a6 := (cell_far (p := ⟨a1, 0, none⟩) (nb b1) (.slice a7 ((q0d a3 a0).f0).length a8)).trans a6; replace a2 := (cell_far (p := ⟨a1, 1, none⟩) (nb b2) (.int .i64 ((q0d a3 a0).f1))).trans a2; replace a4 := (cell_far (p := ⟨a1, 1, none⟩) (nb b2) (.int .i64 ((q0d a3 a0).f1))).trans a4; replace a5 := (cell_far (p := ⟨a1, 1, none⟩) (nb b2) (.int .i64 ((q0d a3 a0).f1))).trans a5; replace a6 := (cell_far (p := ⟨a1, 1, none⟩) (nb b2) (.int .i64 ((q0d a3 a0).f1))).trans a6; replace a2 := (cell_far (p := ⟨a1, 2, none⟩) (nb b3) (.int .i64 ((q0d a3 a0).f2))).trans a2; replace a4 := (cell_far (p := ⟨a1, 2, none⟩) (nb b3) (.int .i64 ((q0d a3 a0).f2))).trans a4; replace a5 := (cell_far (p := ⟨a1, 2, none⟩) (nb b3) (.int .i64 ((q0d a3 a0).f2))).trans a5; replace a6 := (cell_far (p := ⟨a1, 2, none⟩) (nb b3) (.int .i64 ((q0d a3 a0).f2))).trans a6; replace a2 := (cell_far (p := ⟨a1, 3, none⟩) (nb b4) (.int .i64 ((q0d a3 a0).f3))).trans a2; replace a4 := (cell_far (p := ⟨a1, 3, none⟩) (nb b4) (.int .i64 ((q0d a3 a0).f3))).trans a4; replace a5 := (cell_far (p := ⟨a1, 3, none⟩) (nb b4) (.int .i64 ((q0d a3 a0).f3))).trans a5; replace a6 := (cell_far (p := ⟨a1, 3, none⟩) (nb b4) (.int .i64 ((q0d a3 a0).f3))).trans a6; clear b1 b2 b3 b4; replace e8 := eq_true e8; replace f4 := eq_true f4) | ((with_reducible refine gD 7 ?_); (try (refine q1g (by rfl) ?_; dsimp only)); refine bz 7 #[.slice none 0 0, .int .i64 0, .int .i64 0, .int .i64 0] 49 HB ?_; clear HB; intro e3 hg s4 hb g0 g8 HB; have f6 := nL hg a9; have d5 := nG hg a9; replace a9 := kB a9 hb; have f8 := nL hg b0; have d6 := nG hg b0; replace b0 := kB b0 hb; have f9 := am ((by rw [hg]; exact Nat.ne_of_lt (q2i (g := a1) (o := .cells #[.slice a7 ((q0d a3 a0).f0).length a8, .int .i64 ((q0d a3 a0).f1), .int .i64 ((q0d a3 a0).f2), .int .i64 ((q0d a3 a0).f3)] 49 (0, 0)) (pP b5.out)) : a1 ≠ e3)); have d7 := am ((by rw [hg]; exact Nat.ne_of_gt (q2i (g := a1) (o := .cells #[.slice a7 ((q0d a3 a0).f0).length a8, .int .i64 ((q0d a3 a0).f1), .int .i64 ((q0d a3 a0).f2), .int .i64 ((q0d a3 a0).f3)] 49 (0, 0)) (pP b5.out)) : e3 ≠ a1)); replace b5 := am (q0c (g := a1) (o := .cells #[.slice a7 ((q0d a3 a0).f0).length a8, .int .i64 ((q0d a3 a0).f1), .int .i64 ((q0d a3 a0).f2), .int .i64 ((q0d a3 a0).f3)] 49 (0, 0)) (pP b5.out) hb); clear hb hg; have p8 := nn d5; have p9 := nn d6; have q0 := nn d7; have l7 := y4 g0; have l8 := y4 b5) | ((with_reducible refine gC 73 ?_); refine gL 39 Try.func73 #[.slice a7 ((q0d a3 a0).f0).length a8, .slice e5 ((q0d d8 a0).f0).length e6] ?_; (with_reducible refine (Fp.calls k2 _ _ ((q0d a3 a0).f0) _ _ ((q0d d8 a0).f0) true _ ?side1 ?side2 ?side3 ?side4 i5.out).mono ?_); (case side1 => exact Kd.C_below e1.out (pB HB.out)); (case side2 => exact d9.out); (case side3 => exact Kd.C_below e2.out (pB HB.out)); (case side4 => exact e0.out); rintro e w' ⟨rfl, ⟨nd, rfl⟩⟩; refine ⟨_, rfl, ?_⟩))
           go_ret
           exact ⟨er, pB HB.out⟩
          rw [if_neg i9] at H
          obtain ⟨j1, j2⟩ := qf i9
          obtain rfl := Option.some.inj H
          have e7 : 0 ≤ (a0 : Int) := od
          have e9 : a0 < (a3.length : Int) := od
          obtain ⟨g9, a7, a8, g2, c9, d0, d1, d2, c7, b8⟩ := q1r g4.out a0 e7 e9
          cases g2
          replace c9 := bX HB c9
          replace d0 := bX HB d0
          replace d1 := bX HB d1
          replace d2 := bX HB d2
          have e1 := am b8
          have d9 := am c7
          clear b8 c7
          replace e7 := eq_true e7
          replace e9 := eq_true e9
          go_wp2_with (first | ((with_reducible refine gD 6 ?_); (try (refine q1g (by rfl) ?_; dsimp only)); refine bz 6 #[.slice none 0 0, .int .i64 0, .int .i64 0, .int .i64 0] 49 HB ?_; clear HB; intro a1 hg s5 hb b5 b6 HB; have f5 := nL hg a9; have d3 := nG hg a9; replace a9 := kB a9 hb; have f7 := nL hg b0; have d4 := nG hg b0; replace b0 := kB b0 hb; clear hb hg; have q1 := nn d3; have q2 := nn d4; have l9 := y4 b5; have q3 := nn e4; have m0 := y2 b0; have e8 : 0 ≤ (a0 : Int) := od; have f4 : a0 < (d8.length : Int) := od; obtain ⟨b7, e5, e6, g3, a2, a4, a5, a6, c8, b9⟩ := q1r g5.out a0 e8 f4; cases g3; have b1 : b7.block ≠ a1 := Nat.ne_of_lt (Nat.lt_of_lt_of_le (by have := World.block_lt_of_cell? _ _ a2; first | rwa [add_block] at this | exact this) b6.out); have b2 : b7.block ≠ a1 := Nat.ne_of_lt (Nat.lt_of_lt_of_le (by have := World.block_lt_of_cell? _ _ a2; first | rwa [add_block] at this | exact this) b6.out); have b3 : b7.block ≠ a1 := Nat.ne_of_lt (Nat.lt_of_lt_of_le (by have := World.block_lt_of_cell? _ _ a2; first | rwa [add_block] at this | exact this) b6.out); have b4 : b7.block ≠ a1 := Nat.ne_of_lt (Nat.lt_of_lt_of_le (by have := World.block_lt_of_cell? _ _ a2; first | rwa [add_block] at this | exact this) b6.out); replace a2 := bX HB a2; replace a4 := bX HB a4; replace a5 := bX HB a5; replace a6 := bX HB a6; have e2 := am b9; have e0 := am c8; clear b9 c8; replace a2 := (cell_far (p := ⟨a1, 0, none⟩) (nb b1) (.slice a7 ((q0d a3 a0).f0).length a8)).trans a2; replace a4 := (cell_far (p := ⟨a1, 0, none⟩) (nb b1) (.slice a7 ((q0d a3 a0).f0).length a8)).trans a4; replace a5 := (cell_far (p := ⟨a1, 0, none⟩) (nb b1) (.slice a7 ((q0d a3 a0).f0).length a8)).trans a5; replace a6 := (cell_far (p := ⟨a1, 0, none⟩) (nb b1) (.slice a7 ((q0d a3 a0).f0).length a8)).trans a6; replace a2 := (cell_far (p := ⟨a1, 1, none⟩) (nb b2) (.int .i64 ((q0d a3 a0).f1))).trans a2; replace a4 := (cell_far (p := ⟨a1, 1, none⟩) (nb b2) (.int .i64 ((q0d a3 a0).f1))).trans a4; replace a5 := (cell_far (p := ⟨a1, 1, none⟩) (nb b2) (.int .i64 ((q0d a3 a0).f1))).trans a5; replace a6 := (cell_far (p := ⟨a1, 1, none⟩) (nb b2) (.int .i64 ((q0d a3 a0).f1))).trans a6; replace a2 := (cell_far (p := ⟨a1, 2, none⟩) (nb b3) (.int .i64 ((q0d a3 a0).f2))).trans a2; replace a4 := (cell_far (p := ⟨a1, 2, none⟩) (nb b3) (.int .i64 ((q0d a3 a0).f2))).trans a4; replace a5 := (cell_far (p := ⟨a1, 2, none⟩) (nb b3) (.int .i64 ((q0d a3 a0).f2))).trans a5; replace a6 := (cell_far (p := ⟨a1, 2, none⟩) (nb b3) (.int .i64 ((q0d a3 a0).f2))).trans a6; replace a2 := (cell_far (p := ⟨a1, 3, none⟩) (nb b4) (.int .i64 ((q0d a3 a0).f3))).trans a2; replace a4 := (cell_far (p := ⟨a1, 3, none⟩) (nb b4) (.int .i64 ((q0d a3 a0).f3))).trans a4; replace a5 := (cell_far (p := ⟨a1, 3, none⟩) (nb b4) (.int .i64 ((q0d a3 a0).f3))).trans a5; replace a6 := (cell_far (p := ⟨a1, 3, none⟩) (nb b4) (.int .i64 ((q0d a3 a0).f3))).trans a6; clear b1 b2 b3 b4; replace e8 := eq_true e8; replace f4 := eq_true f4) | ((with_reducible refine gD 7 ?_); (try (refine q1g (by rfl) ?_; dsimp only)); refine bz 7 #[.slice none 0 0, .int .i64 0, .int .i64 0, .int .i64 0] 49 HB ?_; clear HB; intro e3 hg s6 hb g0 g8 HB; have f6 := nL hg a9; have d5 := nG hg a9; replace a9 := kB a9 hb; have f8 := nL hg b0; have d6 := nG hg b0; replace b0 := kB b0 hb; have f9 := am ((by rw [hg]; exact Nat.ne_of_lt (q2i (g := a1) (o := .cells #[.slice a7 ((q0d a3 a0).f0).length a8, .int .i64 ((q0d a3 a0).f1), .int .i64 ((q0d a3 a0).f2), .int .i64 ((q0d a3 a0).f3)] 49 (0, 0)) (pP b5.out)) : a1 ≠ e3)); have d7 := am ((by rw [hg]; exact Nat.ne_of_gt (q2i (g := a1) (o := .cells #[.slice a7 ((q0d a3 a0).f0).length a8, .int .i64 ((q0d a3 a0).f1), .int .i64 ((q0d a3 a0).f2), .int .i64 ((q0d a3 a0).f3)] 49 (0, 0)) (pP b5.out)) : e3 ≠ a1)); replace b5 := am (q0c (g := a1) (o := .cells #[.slice a7 ((q0d a3 a0).f0).length a8, .int .i64 ((q0d a3 a0).f1), .int .i64 ((q0d a3 a0).f2), .int .i64 ((q0d a3 a0).f3)] 49 (0, 0)) (pP b5.out) hb); clear hb hg; have q4 := nn d5; have q5 := nn d6; have q6 := nn d7; have m1 := y4 g0; have m2 := y4 b5) | ((with_reducible refine gC 73 ?_); refine gL 39 Try.func73 #[.slice a7 ((q0d a3 a0).f0).length a8, .slice e5 ((q0d d8 a0).f0).length e6] ?_; (with_reducible refine (Fp.calls k2 _ _ ((q0d a3 a0).f0) _ _ ((q0d d8 a0).f0) true _ ?side1 ?side2 ?side3 ?side4 i5.out).mono ?_); (case side1 => exact Kd.C_below e1.out (pB HB.out)); (case side2 => exact d9.out); (case side3 => exact Kd.C_below e2.out (pB HB.out)); (case side4 => exact e0.out); rintro e w' ⟨rfl, ⟨nd, rfl⟩⟩; refine ⟨_, rfl, ?_⟩))
          go_ret
          exact ⟨er, pB HB.out⟩
         replace k3 := Bool.eq_false_iff.mpr k3
         subst k3
         rw [if_neg (show ¬ (false = true) by decide)] at H
         try dsimp only at H
         obtain rfl := Option.some.inj H
         have e7 : 0 ≤ (a0 : Int) := od
         have e9 : a0 < (a3.length : Int) := od
         obtain ⟨g9, a7, a8, g2, c9, d0, d1, d2, c7, b8⟩ := q1r g4.out a0 e7 e9
         cases g2
         replace c9 := bX HB c9
         replace d0 := bX HB d0
         replace d1 := bX HB d1
         replace d2 := bX HB d2
         have e1 := am b8
         have d9 := am c7
         clear b8 c7
         replace e7 := eq_true e7
         replace e9 := eq_true e9
         go_wp2_with (first | ((with_reducible refine gD 6 ?_); (try (refine q1g (by rfl) ?_; dsimp only)); refine bz 6 #[.slice none 0 0, .int .i64 0, .int .i64 0, .int .i64 0] 49 HB ?_; clear HB; intro a1 hg s7 hb b5 b6 HB; have f5 := nL hg a9; have d3 := nG hg a9; replace a9 := kB a9 hb; have f7 := nL hg b0; have d4 := nG hg b0; replace b0 := kB b0 hb; clear hb hg; have q7 := nn d3; have q8 := nn d4; have m3 := y4 b5; have q9 := nn e4; have m4 := y2 b0; have e8 : 0 ≤ (a0 : Int) := od; have f4 : a0 < (d8.length : Int) := od; obtain ⟨b7, e5, e6, g3, a2, a4, a5, a6, c8, b9⟩ := q1r g5.out a0 e8 f4; cases g3; have b1 : b7.block ≠ a1 := Nat.ne_of_lt (Nat.lt_of_lt_of_le (by have := World.block_lt_of_cell? _ _ a2; first | rwa [add_block] at this | exact this) b6.out); have b2 : b7.block ≠ a1 := Nat.ne_of_lt (Nat.lt_of_lt_of_le (by have := World.block_lt_of_cell? _ _ a2; first | rwa [add_block] at this | exact this) b6.out); have b3 : b7.block ≠ a1 := Nat.ne_of_lt (Nat.lt_of_lt_of_le (by have := World.block_lt_of_cell? _ _ a2; first | rwa [add_block] at this | exact this) b6.out); have b4 : b7.block ≠ a1 := Nat.ne_of_lt (Nat.lt_of_lt_of_le (by have := World.block_lt_of_cell? _ _ a2; first | rwa [add_block] at this | exact this) b6.out); replace a2 := bX HB a2; replace a4 := bX HB a4; replace a5 := bX HB a5; replace a6 := bX HB a6; have e2 := am b9; have e0 := am c8; clear b9 c8; replace a2 := (cell_far (p := ⟨a1, 0, none⟩) (nb b1) (.slice a7 ((q0d a3 a0).f0).length a8)).trans a2; replace a4 := (cell_far (p := ⟨a1, 0, none⟩) (nb b1) (.slice a7 ((q0d a3 a0).f0).length a8)).trans a4; replace a5 := (cell_far (p := ⟨a1, 0, none⟩) (nb b1) (.slice a7 ((q0d a3 a0).f0).length a8)).trans a5; replace a6 := (cell_far (p := ⟨a1, 0, none⟩) (nb b1) (.slice a7 ((q0d a3 a0).f0).length a8)).trans a6; replace a2 := (cell_far (p := ⟨a1, 1, none⟩) (nb b2) (.int .i64 ((q0d a3 a0).f1))).trans a2; replace a4 := (cell_far (p := ⟨a1, 1, none⟩) (nb b2) (.int .i64 ((q0d a3 a0).f1))).trans a4; replace a5 := (cell_far (p := ⟨a1, 1, none⟩) (nb b2) (.int .i64 ((q0d a3 a0).f1))).trans a5; replace a6 := (cell_far (p := ⟨a1, 1, none⟩) (nb b2) (.int .i64 ((q0d a3 a0).f1))).trans a6; replace a2 := (cell_far (p := ⟨a1, 2, none⟩) (nb b3) (.int .i64 ((q0d a3 a0).f2))).trans a2; replace a4 := (cell_far (p := ⟨a1, 2, none⟩) (nb b3) (.int .i64 ((q0d a3 a0).f2))).trans a4; replace a5 := (cell_far (p := ⟨a1, 2, none⟩) (nb b3) (.int .i64 ((q0d a3 a0).f2))).trans a5; replace a6 := (cell_far (p := ⟨a1, 2, none⟩) (nb b3) (.int .i64 ((q0d a3 a0).f2))).trans a6; replace a2 := (cell_far (p := ⟨a1, 3, none⟩) (nb b4) (.int .i64 ((q0d a3 a0).f3))).trans a2; replace a4 := (cell_far (p := ⟨a1, 3, none⟩) (nb b4) (.int .i64 ((q0d a3 a0).f3))).trans a4; replace a5 := (cell_far (p := ⟨a1, 3, none⟩) (nb b4) (.int .i64 ((q0d a3 a0).f3))).trans a5; replace a6 := (cell_far (p := ⟨a1, 3, none⟩) (nb b4) (.int .i64 ((q0d a3 a0).f3))).trans a6; clear b1 b2 b3 b4; replace e8 := eq_true e8; replace f4 := eq_true f4) | ((with_reducible refine gD 7 ?_); (try (refine q1g (by rfl) ?_; dsimp only)); refine bz 7 #[.slice none 0 0, .int .i64 0, .int .i64 0, .int .i64 0] 49 HB ?_; clear HB; intro e3 hg s8 hb g0 g8 HB; have f6 := nL hg a9; have d5 := nG hg a9; replace a9 := kB a9 hb; have f8 := nL hg b0; have d6 := nG hg b0; replace b0 := kB b0 hb; have f9 := am ((by rw [hg]; exact Nat.ne_of_lt (q2i (g := a1) (o := .cells #[.slice a7 ((q0d a3 a0).f0).length a8, .int .i64 ((q0d a3 a0).f1), .int .i64 ((q0d a3 a0).f2), .int .i64 ((q0d a3 a0).f3)] 49 (0, 0)) (pP b5.out)) : a1 ≠ e3)); have d7 := am ((by rw [hg]; exact Nat.ne_of_gt (q2i (g := a1) (o := .cells #[.slice a7 ((q0d a3 a0).f0).length a8, .int .i64 ((q0d a3 a0).f1), .int .i64 ((q0d a3 a0).f2), .int .i64 ((q0d a3 a0).f3)] 49 (0, 0)) (pP b5.out)) : e3 ≠ a1)); replace b5 := am (q0c (g := a1) (o := .cells #[.slice a7 ((q0d a3 a0).f0).length a8, .int .i64 ((q0d a3 a0).f1), .int .i64 ((q0d a3 a0).f2), .int .i64 ((q0d a3 a0).f3)] 49 (0, 0)) (pP b5.out) hb); clear hb hg; have r0 := nn d5; have r1 := nn d6; have r2 := nn d7; have m5 := y4 g0; have m6 := y4 b5) | ((with_reducible refine gC 73 ?_); refine gL 39 Try.func73 #[.slice a7 ((q0d a3 a0).f0).length a8, .slice e5 ((q0d d8 a0).f0).length e6] ?_; (with_reducible refine (Fp.calls k2 _ _ ((q0d a3 a0).f0) _ _ ((q0d d8 a0).f0) false _ ?side1 ?side2 ?side3 ?side4 i5.out).mono ?_); (case side1 => exact Kd.C_below e1.out (pB HB.out)); (case side2 => exact d9.out); (case side3 => exact Kd.C_below e2.out (pB HB.out)); (case side4 => exact e0.out); rintro e w' ⟨rfl, ⟨nd, rfl⟩⟩; refine ⟨_, rfl, ?_⟩))
         go_ret
         exact ⟨er, pB HB.out⟩
        rw [if_neg k1] at H
        exact absurd H (by simp)
       rw [if_neg k0] at H
       exact absurd H (by simp)
      rw [if_neg j9] at H
      exact absurd H (by simp)
     rw [if_neg i4] at H
     have i8 := decide_eq_false i4
     clear i4
     obtain rfl := Option.some.inj H
     go_wp2
     go_ret
     exact ⟨er, pB HB.out⟩
end Go.Proofs.Ytabmkighhmchmaa.X
