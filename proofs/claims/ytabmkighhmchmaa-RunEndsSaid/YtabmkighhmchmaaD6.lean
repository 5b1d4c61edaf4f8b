/- Words and walks for the law RunEnds, joined and made small by a program of mine. -/
import Derived.Test.YtabmkighhmchmaaD5
import Derived.Test.YtabmkighhmchmaaD3
import Derived.Test.YtabmkighhmchmaaD2
import Derived.Test.YtabmkighhmchmaaD4
import Derived.LoopTactic
import Derived.Outline
namespace Go.Proofs.Ytabmkighhmchmaa
open Go.RowKit Go.Shelf Go.Proofs.YtabmkighhmchmaaW.PrintWords Go.Proofs.YtabmkighhmchmaaW.PrintLast Go.Proofs.YtabmkighhmchmaaW.PrintMore Go.Proofs.YtabmkighhmchmaaW.Sq
open X (S49 S51 k49 k51 rd_T49 rd_T51 at_T49 at_T51 z51)
set_option linter.unusedVariables false
set_option linter.unusedSimpArgs false
attribute [local go_sem] Oper.semAt_some
theorem goesV_ {P : Program} {ops : Array Oper} {Q : Exit → Act → World → Prop} {oi : Oper} {N : Option Tmp} {a : Act} {w : World} {K : Act → World → Prop} {f : FuncId} {fn : Func} {cv : Operand} {lb : Array Value} {aas : Array Operand} {ts : Array TypeId} (hf : P.funcs[f]? = some fn) (a1 : (fn.name == "runtime.NumGoroutine") = false) (hb : fn.body.isSome = true) (args : Array Value)
  (hw : Region.wanted oi (yielded ops a.tmps) = true) (hN : oi.dst = N) (a3 : oi.op = .call { callee := .value cv, args := aas, argTypes := ts }) (a2 : a.eval cv = .func (.func f) #[] lb) (a0 : aas.map a.eval = args)
  (h : Calls P f (args ++ lb) w fun e w' => ∃ v, e = .returned v ∧ K (a.put N v) w') : if Region.wanted oi (yielded ops a.tmps) = true then Oper.wp P oi a w K Q else K (a.put N undef) w := by
 refine call_ f (args ++ lb) hw hN ?_ h
 have he := enters_ hf a1 hb (args ++ lb) w
 unfold execOp
 simp [a3, resolve, Deferred.ofValue, invoke, a2, a0, he]
theorem own_R {A B : World} {row : Option Nat} {base : Nat} {ok : Nat → Prop} {v : Value} {ys : List S51} (h : Kd.R k51 51 A base ok v ys) (hg : A.grownBy B row) (hr : ∀ r, row = some r → ∃ o : Obj, A.heap[r]? = some o ∧ o.isCells = false) : Kd.R k51 51 B base ok v ys :=
 Kd.R_grown2 h rfl hg (fun k e hk => by
  obtain ⟨inner, ho⟩ := Kd.R_own h
  obtain ⟨a0, hc⟩ := own_typed ho k hk.symm
  obtain ⟨ob, h1, h2⟩ := hr k e
  rw [hc] at h1
  cases h1
  cases h2)
theorem results_cs {P : Program} {fn : Func} {p p' : Tmp} {ty ty' : TypeId} (h : fn.results = #[.cell p ty, .cell p' ty']) (tmps : Array Value) (w : World) (g g' : Nat) (t : TypeId) (cs : Array Value) (fr : Nat × Nat) (d : TypeDesc) (v : Value)
  (hp : tmps.getD p undef = .pointer (some ⟨g, 0, none⟩)) (hg : w.heap[g]? = some (.cells cs t fr))
  (hu : P.underlying ty = some d) (hd : (match d with | .struct _ | .array _ _ => true | _ => false) = true) (hi : (P.info? ty).map (·.size) = some cs.size)
  (a0 : tmps.getD p' undef = .pointer (some ⟨g', 0, none⟩)) (hl : (loadVar ty' ⟨g', 0, none⟩).run P w = .ok v w) :
  (results fn tmps).run P w = .ok (.tuple #[.agg cs, v]) w := by
 have h1 : tmps[p]?.getD undef = .pointer (some ⟨g, 0, none⟩) := by simpa using hp
 have h2 : tmps[p']?.getD undef = .pointer (some ⟨g', 0, none⟩) := by simpa using a0
 simp [results, h, h1, h2, asAddr, run_loadVar_row w g t ty cs fr d hg hu hd hi, hl]
theorem load29 (w : World) (g : Nat) (v : Value) (h : w.cell? ⟨g, 0, none⟩ = some v) : (loadVar 29 ⟨g, 0, none⟩).run Try.prog w = .ok v w := by
 have hu := Try.underlying29
 simp [loadVar, hu, h, go_sem]
def isHeld (ys : List S51) (token : Int) (x : Fin ys.length) : Prop := (rd_T51 ys (x.val : Int)).f0 = 2 ∧ (rd_T51 ys (x.val : Int)).f3 = token
theorem heldL_skip (ts : List S49) (is : Int) (ys : List S51) (token : Int) (a1 : S49 → S51 → Option (S51 × Int)) : ∀ (a0 l : List (Fin ys.length)), (∀ y ∈ a0, ¬ isHeld ys token y) → heldL ts is ys token a1 (a0 ++ l) = heldL ts is ys token a1 l
 | [], l, _ => rfl
 | x :: a0, l, h => by
  have ih := heldL_skip ts is ys token a1 a0 l (fun y hy => h y (List.mem_cons_of_mem _ hy))
  have h1 := h x (List.mem_cons_self ..)
  rw [List.cons_append, heldL]
  by_cases h2 : (rd_T51 ys (x.val : Int)).f0 ≠ 2
  ·
   rw [if_pos h2, ih]
  rw [if_neg h2]
  by_cases h3 : (rd_T51 ys (x.val : Int)).f3 ≠ token
  ·
   rw [if_pos h3, ih]
  exact absurd ⟨by simpa using h2, by simpa using h3⟩ h1
theorem heldL_here (ts : List S49) (is : Int) (ys : List S51) (token : Int) (a0 : S49 → S51 → Option (S51 × Int)) (x : Fin ys.length) (l : List (Fin ys.length)) (h : isHeld ys token x) :
  heldL ts is ys token a0 (x :: l) = (a0 (rd_T49 ts (x.val : Int)) (rd_T51 ys (x.val : Int))).bind fun p => if p.2 ≠ 0 then some (p.2, 0, []) else (mendF ts is (ys.set x.val p.1)).bind fun q => some (0, q.1, q.2) := by
 rw [heldL, if_neg (by simpa using h.1), if_neg (by simpa using h.2)]
theorem goodHeld_at {ts : List S49} {is : Int} {ys : List S51} {token : Int} {act : S49 → S51 → Option (S51 × Int)} (h : goodHeld ts is ys token act = true) (x : Fin ys.length) (hx : isHeld ys token x) :
  ∃ p, act (rd_T49 ts (x.val : Int)) (rd_T51 ys (x.val : Int)) = some p ∧ (p.2 = 0 → ∃ q, mendF ts is (ys.set x.val p.1) = some q) := by
 have h1 := List.all_eq_true.1 h x (List.mem_finRange x)
 simp only [Bool.or_eq_true, decide_eq_true_eq] at h1
 rcases h1 with (h1 | h1) | h1
 ·
  exact absurd hx.1 h1
 ·
  exact absurd hx.2 h1
 cases ha : act (rd_T49 ts (x.val : Int)) (rd_T51 ys (x.val : Int)) with
 | none => rw [ha] at h1; cases h1
 | some p =>
  rw [ha] at h1
  refine ⟨p, rfl, fun hp => ?_⟩
  simp only [hp, Bool.or_eq_true, decide_eq_true_eq, ne_eq, not_true, false_or] at h1
  exact Option.isSome_iff_exists.1 (by simpa using h1)
theorem heldO_cases {k : Nat} {ky nm : ByteArray} {ts : List S49} {is : Int} {xs : List S51} {now token : Int} {act : S49 → S51 → Option (S51 × Int)} {r : Int × Int × List S51} (h : heldO k ky nm ts is xs now token act = some r) :
  (settleO k ky nm ts is xs now = some none ∧ r = (1, 0, [])) ∨ (∃ is' ys, settleO k ky nm ts is xs now = some (some (is', ys)) ∧ goodHeld ts is' ys token act = true ∧ heldL ts is' ys token act (List.finRange ys.length) = some r) := by
 obtain ⟨so, hs, h⟩ := Option.bind_eq_some_iff.1 h
 rcases so with _ | ⟨is', ys⟩
 ·
  exact .inl ⟨hs, (Option.some.inj h).symm⟩
 refine .inr ⟨is', ys, hs, ?_⟩
 by_cases hg : goodHeld ts is' ys token act = false
 ·
  exact absurd ((if_pos hg).symm.trans h) (by simp)
 exact ⟨by simpa using hg, (if_neg hg).symm.trans h⟩
set_option maxHeartbeats 4000000 in
set_option maxRecDepth 100000 in
theorem held_calls (m : Nat) (fm : Func) (hf : Try.prog.funcs[m]? = some fm) (g2 : (fm.name == "runtime.NumGoroutine") = false) (n9 : fm.body.isSome = true) (lb : Array Value) (i7 : S49 → S51 → Option (S51 × Int))
  (k : Nat) (ky nm : ByteArray) (A1 : Option Addr) (c1 : Nat) (ts : List S49) (is : Int) (A2 : Option Addr) (c2 : Nat) (xs : List S51) (now token : Int) (r : Int × Int × List S51) (w : World) (hT : Kd.C k49 w A1 ts.length ts) (ht : ts.length ≤ c1) (hC : Kd.C k51 w A2 xs.length xs)
  (i8 : ∀ (t : S49) (s : S51) (p : S51 × Int) (A0 : Option Addr) (c0 : Nat), i7 t s = some p → t.f0.length ≤ c0 → ∀ W, Below w.heap.size w W → Kd.C (Kd.int .i64) W A0 t.f0.length t.f0 → Calls Try.prog m (#[.agg #[.slice A0 t.f0.length c0, .int .i64 t.f1, .int .i64 t.f2, .int .i64 t.f3], .agg #[.int .i64 s.f0, .int .i64 s.f1, .int .i64 s.f2, .int .i64 s.f3, .string s.f4]] ++ lb) W fun e w' => e = .returned (.tuple #[.agg #[(.int .i64 p.1.f0), (.int .i64 p.1.f1), (.int .i64 p.1.f2), (.int .i64 p.1.f3), (.string p.1.f4)], .int .i64 p.2]) ∧ Below W.heap.size W w')
  (h : heldO k ky nm ts is xs now token i7 = some r) :
  Calls Try.prog 50 #[.agg #[(.string ky), (.string nm), (.slice A1 ts.length c1), (.int .i64 is), (.slice A2 xs.length c2)], .int .i64 now, .int .i64 token, .func (.func m) #[] lb] w fun e w' => runPost ky nm A1 c1 ts A2 c2 xs w r e w' := by
 have q7 := Try.underlying27
 have q5 := Try.underlying24
 have q8 := Try.underlying49
 have q9 := Try.underlying51
 have q4 := Try.underlying22
 have q6 := Try.underlying25
 have HC := am hC
 have HT := am hT
 have m2 := am ht
 have l6 := am i8
 have HF := am (And.intro hf (And.intro g2 n9))
 have HB := am (Below.refl w.heap.size w)
 have HH := am (heldO_cases h)
 clear hT hC h ht i8 hf g2 n9
 rcases HH.out with ⟨hs, rfl⟩ | ⟨is', ys, hs, hg, hl⟩
 ·
  have HO := am hs
  clear HH hs
  go_enter Try.func50, Try.ntmps50
  go_wp2_with (first | ((with_reducible refine gD 4 ?_); refine bz 4 (#[(.string ky), (.string nm), (.slice A1 ts.length c1), (.int .i64 is), (.slice A2 xs.length c2)] : Array Value) 27 HB ?_; clear HB; intro g4 hg r6 hb B4 o5 HB; clear hb hg) | ((with_reducible refine gD 6 ?_); refine bz 6 (#[(.int .i64 token)] : Array Value) 3 HB ?_; clear HB; intro g6 hg r7 hb B6 o6 HB; have d6 := nP hg B4; have j3 := am d6.out.symm; replace B4 := kP B4 hb; clear hb hg) | ((with_reducible refine gD 7 ?_); refine bz 7 (#[(.func (.func m) #[] lb)] : Array Value) 74 HB ?_; clear HB; intro g7 hg r8 hb B7 o7 HB; have d7 := nP hg B4; have j4 := am d7.out.symm; have d8 := nP hg B6; have j5 := am d8.out.symm; replace B4 := kP B4 hb; replace B6 := kP B6 hb; clear hb hg) | ((with_reducible refine gD 8 ?_); refine bz 8 (#[(.string (⟨#[]⟩ : ByteArray)), (.string (⟨#[]⟩ : ByteArray)), (.slice none 0 0), (.int .i64 0), (.slice none 0 0)] : Array Value) 27 HB ?_; clear HB; intro g8 hg r9 hb B8 o8 HB; have c7 := nP hg B4; have f7 := am c7.out.symm; have d9 := nP hg B6; have j6 := am d9.out.symm; have f5 := nP hg B7; have j7 := am f5.out.symm; replace B4 := kP B4 hb; replace B6 := kP B6 hb; replace B7 := kP B7 hb; clear hb hg) | ((with_reducible refine gD 9 ?_); refine bz 9 (#[(.int .i64 0)] : Array Value) 29 HB ?_; clear HB; intro g9 hg s0 hb B9 o9 HB; have c8 := nP hg B4; have f8 := am c8.out.symm; have e0 := nP hg B6; have j8 := am e0.out.symm; have f6 := nP hg B7; have j9 := am f6.out.symm; have d5 := nP hg B8; have f9 := am d5.out.symm; replace B4 := kP B4 hb; replace B6 := kP B6 hb; replace B7 := kP B7 hb; replace B8 := kP B8 hb; clear hb hg; obtain ⟨b0, b1, b2, b3, b4⟩ := ce5 B4.out) | (go_at_call 14; refine (settle_calls k ky nm A1 c1 ts is A2 c2 xs now _ _ (Kd.C_below HT.out HB.out) m2.out (Kd.C_below HC.out HB.out) HO.out).mono ?_; rintro e w3 ⟨rfl, hb⟩; replace B4 := kP B4 hb; replace B6 := kP B6 hb; replace B7 := kP B7 hb; replace B8 := kP B8 hb; replace B9 := kP B9 hb; replace HB := bS HB hb; clear b0 b1 b2 b3 b4 hb; obtain ⟨b0, b1, b2, b3, b4⟩ := ce5 B4.out; obtain ⟨m8, m9, n0, n1, i1⟩ := z5 B4.out; obtain ⟨d0, d1, d2, d3, d4⟩ := ce5 B8.out; obtain ⟨k4, k5, k8, k9, l0⟩ := z5 B8.out; have q0 := ce1 B9.out; have l3 := z1 B9.out; have t7 := c7.out; have u0 := f7.out; have t8 := c8.out; have u2 := f8.out; have u1 := d5.out; have u3 := f9.out))
  refine bodyPost_ret (results_cs rfl _ _ g8 g9 27 (#[(.string (⟨#[]⟩ : ByteArray)), (.string (⟨#[]⟩ : ByteArray)), (.slice none 0 0), (.int .i64 0), (.slice none 0 0)] : Array Value) (0, 0) _ (.int .i64 1) rfl (pP B8.out) Try.underlying27 rfl (by kernel_rfl) rfl (load29 _ _ _ ((blk_cell (pP (cs' := #[.int .i64 1]) B9.out) 0).trans rfl))) rfl ?_
  exact ⟨.inr ⟨by decide, rfl⟩, pB HB.out⟩
 have HO := am hs
 have HG := am hg
 have l8 := am hl
 have k0 := am (settleO_len hs)
 clear HH hs hg hl
 refine (callsIn_wide (n := 6)).1 ?_
 refine callsIn_of_wp_marks Try.func50 rfl trivial ?_ rfl
 simp only [Try.ntmps50, List.size_toArray, List.length_cons, List.length_nil, Nat.reduceAdd, Nat.reduceSub, Array.replicate_succ, Array.replicate_zero, List.push_toArray, List.append_toArray, List.nil_append, List.cons_append]
 have B4 := am (show ((w).alloc (.cells #[(.string ky), (.string nm), (.slice A1 ts.length c1), (.int .i64 is), (.slice A2 xs.length c2)] 27)).heap[w.heap.size]? = some (.cells (#[(.string ky), (.string nm), (.slice A1 ts.length c1), (.int .i64 is), (.slice A2 xs.length c2)] : Array Value) 27 (0, 0)) from (by have h_ := blk_new w (.cells #[(.string ky), (.string nm), (.slice A1 ts.length c1), (.int .i64 is), (.slice A2 xs.length c2)] 27); exact h_))
 have X4 := am (blk_alloc B4.out (.cells #[(.int .i64 token)] 3))
 clear B4
 have B4 := X4
 clear X4
 have B6 := am (show (((w).alloc (.cells #[(.string ky), (.string nm), (.slice A1 ts.length c1), (.int .i64 is), (.slice A2 xs.length c2)] 27)).alloc (.cells #[(.int .i64 token)] 3)).heap[w.heap.size + 1]? = some (.cells (#[(.int .i64 token)] : Array Value) 3 (0, 0)) from (by have h_ := blk_new ((w).alloc (.cells #[(.string ky), (.string nm), (.slice A1 ts.length c1), (.int .i64 is), (.slice A2 xs.length c2)] 27)) (.cells #[(.int .i64 token)] 3); rwa [World.size_alloc] at h_))
 have X4 := am (blk_alloc B4.out (.cells #[(.func (.func m) #[] lb)] 74))
 have X6 := am (blk_alloc B6.out (.cells #[(.func (.func m) #[] lb)] 74))
 clear B4 B6
 have B4 := X4
 have B6 := X6
 clear X4 X6
 have B7 := am (show ((((w).alloc (.cells #[(.string ky), (.string nm), (.slice A1 ts.length c1), (.int .i64 is), (.slice A2 xs.length c2)] 27)).alloc (.cells #[(.int .i64 token)] 3)).alloc (.cells #[(.func (.func m) #[] lb)] 74)).heap[w.heap.size + 1 + 1]? = some (.cells (#[(.func (.func m) #[] lb)] : Array Value) 74 (0, 0)) from (by have h_ := blk_new (((w).alloc (.cells #[(.string ky), (.string nm), (.slice A1 ts.length c1), (.int .i64 is), (.slice A2 xs.length c2)] 27)).alloc (.cells #[(.int .i64 token)] 3)) (.cells #[(.func (.func m) #[] lb)] 74); rwa [World.size_alloc, World.size_alloc] at h_))
 have X4 := am (blk_alloc B4.out (.cells #[(.string (⟨#[]⟩ : ByteArray)), (.string (⟨#[]⟩ : ByteArray)), (.slice none 0 0), (.int .i64 0), (.slice none 0 0)] 27))
 have X6 := am (blk_alloc B6.out (.cells #[(.string (⟨#[]⟩ : ByteArray)), (.string (⟨#[]⟩ : ByteArray)), (.slice none 0 0), (.int .i64 0), (.slice none 0 0)] 27))
 have X7 := am (blk_alloc B7.out (.cells #[(.string (⟨#[]⟩ : ByteArray)), (.string (⟨#[]⟩ : ByteArray)), (.slice none 0 0), (.int .i64 0), (.slice none 0 0)] 27))
 clear B4 B6 B7
 have B4 := X4
 have B6 := X6
 have B7 := X7
 clear X4 X6 X7
 have B8 := am (show (((((w).alloc (.cells #[(.string ky), (.string nm), (.slice A1 ts.length c1), (.int .i64 is), (.slice A2 xs.length c2)] 27)).alloc (.cells #[(.int .i64 token)] 3)).alloc (.cells #[(.func (.func m) #[] lb)] 74)).alloc (.cells #[(.string (⟨#[]⟩ : ByteArray)), (.string (⟨#[]⟩ : ByteArray)), (.slice none 0 0), (.int .i64 0), (.slice none 0 0)] 27)).heap[w.heap.size + 1 + 1 + 1]? = some (.cells (#[(.string (⟨#[]⟩ : ByteArray)), (.string (⟨#[]⟩ : ByteArray)), (.slice none 0 0), (.int .i64 0), (.slice none 0 0)] : Array Value) 27 (0, 0)) from (by have h_ := blk_new ((((w).alloc (.cells #[(.string ky), (.string nm), (.slice A1 ts.length c1), (.int .i64 is), (.slice A2 xs.length c2)] 27)).alloc (.cells #[(.int .i64 token)] 3)).alloc (.cells #[(.func (.func m) #[] lb)] 74)) (.cells #[(.string (⟨#[]⟩ : ByteArray)), (.string (⟨#[]⟩ : ByteArray)), (.slice none 0 0), (.int .i64 0), (.slice none 0 0)] 27); rwa [World.size_alloc, World.size_alloc, World.size_alloc] at h_))
 have X4 := am (blk_alloc B4.out (.cells #[(.int .i64 0)] 29))
 have X6 := am (blk_alloc B6.out (.cells #[(.int .i64 0)] 29))
 have X7 := am (blk_alloc B7.out (.cells #[(.int .i64 0)] 29))
 have X8 := am (blk_alloc B8.out (.cells #[(.int .i64 0)] 29))
 clear B4 B6 B7 B8
 have B4 := X4
 have B6 := X6
 have B7 := X7
 have B8 := X8
 clear X4 X6 X7 X8
 have B9 := am (show ((((((w).alloc (.cells #[(.string ky), (.string nm), (.slice A1 ts.length c1), (.int .i64 is), (.slice A2 xs.length c2)] 27)).alloc (.cells #[(.int .i64 token)] 3)).alloc (.cells #[(.func (.func m) #[] lb)] 74)).alloc (.cells #[(.string (⟨#[]⟩ : ByteArray)), (.string (⟨#[]⟩ : ByteArray)), (.slice none 0 0), (.int .i64 0), (.slice none 0 0)] 27)).alloc (.cells #[(.int .i64 0)] 29)).heap[w.heap.size + 1 + 1 + 1 + 1]? = some (.cells (#[(.int .i64 0)] : Array Value) 29 (0, 0)) from (by have h_ := blk_new (((((w).alloc (.cells #[(.string ky), (.string nm), (.slice A1 ts.length c1), (.int .i64 is), (.slice A2 xs.length c2)] 27)).alloc (.cells #[(.int .i64 token)] 3)).alloc (.cells #[(.func (.func m) #[] lb)] 74)).alloc (.cells #[(.string (⟨#[]⟩ : ByteArray)), (.string (⟨#[]⟩ : ByteArray)), (.slice none 0 0), (.int .i64 0), (.slice none 0 0)] 27)) (.cells #[(.int .i64 0)] 29); rwa [World.size_alloc, World.size_alloc, World.size_alloc, World.size_alloc] at h_))
 have XB := am (show Below w.heap.size w ((((((w).alloc (.cells #[(.string ky), (.string nm), (.slice A1 ts.length c1), (.int .i64 is), (.slice A2 xs.length c2)] 27)).alloc (.cells #[(.int .i64 token)] 3)).alloc (.cells #[(.func (.func m) #[] lb)] 74)).alloc (.cells #[(.string (⟨#[]⟩ : ByteArray)), (.string (⟨#[]⟩ : ByteArray)), (.slice none 0 0), (.int .i64 0), (.slice none 0 0)] 27)).alloc (.cells #[(.int .i64 0)] 29)) from below_alloc (below_alloc (below_alloc (below_alloc (below_alloc (Below.refl _ w) _) _) _) _) _)
 clear HB
 have HB := XB
 clear XB
 gi_wp2_with (first | (refine ⟨trivial, ?_⟩; gi_at_call 14; refine (callsIn_wide.2 (settle_calls k ky nm A1 c1 ts is A2 c2 xs now _ _ (Kd.C_below HT.out HB.out) m2.out (Kd.C_below HC.out HB.out) HO.out)).mono ?_; rintro e w3 ⟨⟨v3, rfl, ho⟩, hb⟩; obtain ⟨A3, c3, e3⟩ := RowOf.slice ho; (try dsimp only at e3); subst e3; have H3 := am (RowOf.base ho (below_size HB.out)); have X4 := am (blk_below B4.out hb); have X6 := am (blk_below B6.out hb); have X7 := am (blk_below B7.out hb); have X8 := am (blk_below B8.out hb); have X9 := am (blk_below B9.out hb); have XB := am (below_step HB.out hb); have j2 := am (show w.heap.size + 5 ≤ w3.heap.size by have := hb.size; simp at this; omega); clear HB B4 B6 B7 B8 B9; have B4 := X4; have B6 := X6; have B7 := X7; have B8 := X8; have B9 := X9; have HB := XB; clear XB hb ho X4 X6 X7 X8 X9; obtain ⟨b0, b1, b2, b3, b4⟩ := ce5 B4.out; obtain ⟨m8, m9, n0, n1, i1⟩ := z5 B4.out) | (refine ⟨trivial, ?_⟩; gi_at_call 43; refine (callsIn_wide.2 (each_calls ky nm A1 ts.length c1 is' A3 ys.length c3 _)).mono ?_; rintro e w5 ⟨gb, rfl, hg, i9, hb⟩; have X4 := am (show (((((w3.setCell ⟨w.heap.size, 0, none⟩ (.string ky)).setCell ⟨w.heap.size, 1, none⟩ (.string nm)).setCell ⟨w.heap.size, 2, none⟩ (.slice A1 ts.length c1)).setCell ⟨w.heap.size, 3, none⟩ (.int .i64 is')).setCell ⟨w.heap.size, 4, none⟩ (.slice A3 ys.length c3)).heap[w.heap.size]? = some (.cells (#[(.string ky), (.string nm), (.slice A1 ts.length c1), (.int .i64 is'), (.slice A3 ys.length c3)] : Array Value) 27 (0, 0)) from (blk_put (cs := #[(.string ky), (.string nm), (.slice A1 ts.length c1), (.int .i64 is'), (.slice A2 xs.length c2)]) (cs' := #[(.string ky), (.string nm), (.slice A1 ts.length c1), (.int .i64 is'), (.slice A3 ys.length c3)]) (blk_put (cs := #[(.string ky), (.string nm), (.slice A1 ts.length c1), (.int .i64 is), (.slice A2 xs.length c2)]) (cs' := #[(.string ky), (.string nm), (.slice A1 ts.length c1), (.int .i64 is'), (.slice A2 xs.length c2)]) (blk_put (cs := #[(.string ky), (.string nm), (.slice A1 ts.length c1), (.int .i64 is), (.slice A2 xs.length c2)]) (cs' := #[(.string ky), (.string nm), (.slice A1 ts.length c1), (.int .i64 is), (.slice A2 xs.length c2)]) (blk_put (cs := #[(.string ky), (.string nm), (.slice A1 ts.length c1), (.int .i64 is), (.slice A2 xs.length c2)]) (cs' := #[(.string ky), (.string nm), (.slice A1 ts.length c1), (.int .i64 is), (.slice A2 xs.length c2)]) (blk_put (cs := #[(.string ky), (.string nm), (.slice A1 ts.length c1), (.int .i64 is), (.slice A2 xs.length c2)]) (cs' := #[(.string ky), (.string nm), (.slice A1 ts.length c1), (.int .i64 is), (.slice A2 xs.length c2)]) B4.out 0 _ rfl) 1 _ rfl) 2 _ rfl) 3 _ rfl) 4 _ rfl)); have X6 := am (show (((((w3.setCell ⟨w.heap.size, 0, none⟩ (.string ky)).setCell ⟨w.heap.size, 1, none⟩ (.string nm)).setCell ⟨w.heap.size, 2, none⟩ (.slice A1 ts.length c1)).setCell ⟨w.heap.size, 3, none⟩ (.int .i64 is')).setCell ⟨w.heap.size, 4, none⟩ (.slice A3 ys.length c3)).heap[w.heap.size + 1]? = some (.cells (#[(.int .i64 token)] : Array Value) 3 (0, 0)) from (blk_far (blk_far (blk_far (blk_far (blk_far B6.out (by show w.heap.size + 1 ≠ w.heap.size; omega) _) (by show w.heap.size + 1 ≠ w.heap.size; omega) _) (by show w.heap.size + 1 ≠ w.heap.size; omega) _) (by show w.heap.size + 1 ≠ w.heap.size; omega) _) (by show w.heap.size + 1 ≠ w.heap.size; omega) _)); have X7 := am (show (((((w3.setCell ⟨w.heap.size, 0, none⟩ (.string ky)).setCell ⟨w.heap.size, 1, none⟩ (.string nm)).setCell ⟨w.heap.size, 2, none⟩ (.slice A1 ts.length c1)).setCell ⟨w.heap.size, 3, none⟩ (.int .i64 is')).setCell ⟨w.heap.size, 4, none⟩ (.slice A3 ys.length c3)).heap[w.heap.size + 1 + 1]? = some (.cells (#[(.func (.func m) #[] lb)] : Array Value) 74 (0, 0)) from (blk_far (blk_far (blk_far (blk_far (blk_far B7.out (by show w.heap.size + 1 + 1 ≠ w.heap.size; omega) _) (by show w.heap.size + 1 + 1 ≠ w.heap.size; omega) _) (by show w.heap.size + 1 + 1 ≠ w.heap.size; omega) _) (by show w.heap.size + 1 + 1 ≠ w.heap.size; omega) _) (by show w.heap.size + 1 + 1 ≠ w.heap.size; omega) _)); have X8 := am (show (((((w3.setCell ⟨w.heap.size, 0, none⟩ (.string ky)).setCell ⟨w.heap.size, 1, none⟩ (.string nm)).setCell ⟨w.heap.size, 2, none⟩ (.slice A1 ts.length c1)).setCell ⟨w.heap.size, 3, none⟩ (.int .i64 is')).setCell ⟨w.heap.size, 4, none⟩ (.slice A3 ys.length c3)).heap[w.heap.size + 1 + 1 + 1]? = some (.cells (#[(.string (⟨#[]⟩ : ByteArray)), (.string (⟨#[]⟩ : ByteArray)), (.slice none 0 0), (.int .i64 0), (.slice none 0 0)] : Array Value) 27 (0, 0)) from (blk_far (blk_far (blk_far (blk_far (blk_far B8.out (by show w.heap.size + 1 + 1 + 1 ≠ w.heap.size; omega) _) (by show w.heap.size + 1 + 1 + 1 ≠ w.heap.size; omega) _) (by show w.heap.size + 1 + 1 + 1 ≠ w.heap.size; omega) _) (by show w.heap.size + 1 + 1 + 1 ≠ w.heap.size; omega) _) (by show w.heap.size + 1 + 1 + 1 ≠ w.heap.size; omega) _)); have X9 := am (show (((((w3.setCell ⟨w.heap.size, 0, none⟩ (.string ky)).setCell ⟨w.heap.size, 1, none⟩ (.string nm)).setCell ⟨w.heap.size, 2, none⟩ (.slice A1 ts.length c1)).setCell ⟨w.heap.size, 3, none⟩ (.int .i64 is')).setCell ⟨w.heap.size, 4, none⟩ (.slice A3 ys.length c3)).heap[w.heap.size + 1 + 1 + 1 + 1]? = some (.cells (#[(.int .i64 0)] : Array Value) 29 (0, 0)) from (blk_far (blk_far (blk_far (blk_far (blk_far B9.out (by show w.heap.size + 1 + 1 + 1 + 1 ≠ w.heap.size; omega) _) (by show w.heap.size + 1 + 1 + 1 + 1 ≠ w.heap.size; omega) _) (by show w.heap.size + 1 + 1 + 1 + 1 ≠ w.heap.size; omega) _) (by show w.heap.size + 1 + 1 + 1 + 1 ≠ w.heap.size; omega) _) (by show w.heap.size + 1 + 1 + 1 + 1 ≠ w.heap.size; omega) _)); have X3 := am (show RowOf w (((((w3.setCell ⟨w.heap.size, 0, none⟩ (.string ky)).setCell ⟨w.heap.size, 1, none⟩ (.string nm)).setCell ⟨w.heap.size, 2, none⟩ (.slice A1 ts.length c1)).setCell ⟨w.heap.size, 3, none⟩ (.int .i64 is')).setCell ⟨w.heap.size, 4, none⟩ (.slice A3 ys.length c3)) A2 c2 xs (.slice A3 ys.length c3) ys from (RowOf.set (RowOf.set (RowOf.set (RowOf.set (RowOf.set H3.out B4.out (by decide) _ _) (blk_put (cs := #[(.string ky), (.string nm), (.slice A1 ts.length c1), (.int .i64 is), (.slice A2 xs.length c2)]) (cs' := #[(.string ky), (.string nm), (.slice A1 ts.length c1), (.int .i64 is), (.slice A2 xs.length c2)]) B4.out 0 _ rfl) (by decide) _ _) (blk_put (cs := #[(.string ky), (.string nm), (.slice A1 ts.length c1), (.int .i64 is), (.slice A2 xs.length c2)]) (cs' := #[(.string ky), (.string nm), (.slice A1 ts.length c1), (.int .i64 is), (.slice A2 xs.length c2)]) (blk_put (cs := #[(.string ky), (.string nm), (.slice A1 ts.length c1), (.int .i64 is), (.slice A2 xs.length c2)]) (cs' := #[(.string ky), (.string nm), (.slice A1 ts.length c1), (.int .i64 is), (.slice A2 xs.length c2)]) B4.out 0 _ rfl) 1 _ rfl) (by decide) _ _) (blk_put (cs := #[(.string ky), (.string nm), (.slice A1 ts.length c1), (.int .i64 is), (.slice A2 xs.length c2)]) (cs' := #[(.string ky), (.string nm), (.slice A1 ts.length c1), (.int .i64 is), (.slice A2 xs.length c2)]) (blk_put (cs := #[(.string ky), (.string nm), (.slice A1 ts.length c1), (.int .i64 is), (.slice A2 xs.length c2)]) (cs' := #[(.string ky), (.string nm), (.slice A1 ts.length c1), (.int .i64 is), (.slice A2 xs.length c2)]) (blk_put (cs := #[(.string ky), (.string nm), (.slice A1 ts.length c1), (.int .i64 is), (.slice A2 xs.length c2)]) (cs' := #[(.string ky), (.string nm), (.slice A1 ts.length c1), (.int .i64 is), (.slice A2 xs.length c2)]) B4.out 0 _ rfl) 1 _ rfl) 2 _ rfl) (by decide) _ _) (blk_put (cs := #[(.string ky), (.string nm), (.slice A1 ts.length c1), (.int .i64 is), (.slice A2 xs.length c2)]) (cs' := #[(.string ky), (.string nm), (.slice A1 ts.length c1), (.int .i64 is'), (.slice A2 xs.length c2)]) (blk_put (cs := #[(.string ky), (.string nm), (.slice A1 ts.length c1), (.int .i64 is), (.slice A2 xs.length c2)]) (cs' := #[(.string ky), (.string nm), (.slice A1 ts.length c1), (.int .i64 is), (.slice A2 xs.length c2)]) (blk_put (cs := #[(.string ky), (.string nm), (.slice A1 ts.length c1), (.int .i64 is), (.slice A2 xs.length c2)]) (cs' := #[(.string ky), (.string nm), (.slice A1 ts.length c1), (.int .i64 is), (.slice A2 xs.length c2)]) (blk_put (cs := #[(.string ky), (.string nm), (.slice A1 ts.length c1), (.int .i64 is), (.slice A2 xs.length c2)]) (cs' := #[(.string ky), (.string nm), (.slice A1 ts.length c1), (.int .i64 is), (.slice A2 xs.length c2)]) B4.out 0 _ rfl) 1 _ rfl) 2 _ rfl) 3 _ rfl) (by decide) _ _)); have XB := am (show Below w.heap.size w (((((w3.setCell ⟨w.heap.size, 0, none⟩ (.string ky)).setCell ⟨w.heap.size, 1, none⟩ (.string nm)).setCell ⟨w.heap.size, 2, none⟩ (.slice A1 ts.length c1)).setCell ⟨w.heap.size, 3, none⟩ (.int .i64 is')).setCell ⟨w.heap.size, 4, none⟩ (.slice A3 ys.length c3)) from (below_set (below_set (below_set (below_set (below_set HB.out (Nat.le_refl _)) (Nat.le_refl _)) (Nat.le_refl _)) (Nat.le_refl _)) (Nat.le_refl _))); have p4 := am i9; have Y3 := am (RowOf.below X3.out hb); have YB := am (below_step XB.out hb); have HS := am (show w.heap.size + 5 ≤ w5.heap.size by have a9 := hb.size; have b5 := j2.out; simp at a9; omega); have Y4 := am (blk_below X4.out hb); have Y6 := am (blk_below X6.out hb); have Y7 := am (blk_below X7.out hb); have Y8 := am (blk_below X8.out hb); have Y9 := am (blk_below X9.out hb); clear HB H3 X3 XB hg i9 hb B4 X4 B6 X6 B7 X7 B8 X8 B9 X9 b0 b1 b2 b3 b4 m8 m9 n0 n1 i1; have B4 := Y4; have B6 := Y6; have B7 := Y7; have B8 := Y8; have B9 := Y9; have HB := YB; have H3 := Y3; clear YB Y3 Y4 Y6 Y7 Y8 Y9))
 refine wpIn_rangeFunc_ownH (w0 := w5) rfl (by omega) (gf := 78) (lb := #[.pointer (some ⟨gb, 0, none⟩)]) rfl trivial (enters_of Try.func78 (by kernel_rfl) rfl)
  (eachF_stops 5 (by omega) gb ky nm A1 ts.length c1 is' A3 c3 ys w5 w5 (RowOf.reads H3.out HC.out HB.out) (by have := k0.out; (try dsimp only at this); omega) (Below.refl _ _) p4.out) belowK_t (belowK_b (Nat.le_refl _)) (Below.refl _ _) (fun _ => rfl)
  (fun g3 W => ((W.heap[w.heap.size]? = some (.cells (#[(.string ky), (.string nm), (.slice A1 ts.length c1), (.int .i64 is'), (.slice A3 ys.length c3)] : Array Value) 27 (0, 0))) ∧ (W.heap[w.heap.size + 1]? = some (.cells (#[(.int .i64 token)] : Array Value) 3 (0, 0))) ∧ (W.heap[w.heap.size + 1 + 1]? = some (.cells (#[(.func (.func m) #[] lb)] : Array Value) 74 (0, 0))) ∧ (W.heap[w.heap.size + 1 + 1 + 1]? = some (.cells (#[(.string (⟨#[]⟩ : ByteArray)), (.string (⟨#[]⟩ : ByteArray)), (.slice none 0 0), (.int .i64 0), (.slice none 0 0)] : Array Value) 27 (0, 0))) ∧ (W.heap[w.heap.size + 1 + 1 + 1 + 1]? = some (.cells (#[(.int .i64 0)] : Array Value) 29 (0, 0)))) ∧ (Below w.heap.size w W ∧ (Below w5.heap.size w5 W ∧ ∀ y ∈ g3, ¬ isHeld ys token y)))
  (fun c g3 W => ∃ c6 x p, g3 = c6 ++ [x] ∧ (∀ y ∈ c6, ¬ isHeld ys token y) ∧ isHeld ys token x ∧ i7 (rd_T49 ts (x.val : Int)) (rd_T51 ys (x.val : Int)) = some p ∧ c = .ret ∧ Below w.heap.size w W ∧ ((p.2 ≠ 0 ∧ W.heap[w.heap.size + 1 + 1 + 1]? = some (.cells (#[(.string (⟨#[]⟩ : ByteArray)), (.string (⟨#[]⟩ : ByteArray)), (.slice none 0 0), (.int .i64 0), (.slice none 0 0)] : Array Value) 27 (0, 0)) ∧ W.heap[w.heap.size + 1 + 1 + 1 + 1]? = some (.cells (#[(.int .i64 p.2)] : Array Value) 29 (0, 0))) ∨ (p.2 = 0 ∧ ∃ q A c, mendF ts is' (ys.set x.val p.1) = some q ∧ W.heap[w.heap.size + 1 + 1 + 1]? = some (.cells (#[(.string ky), (.string nm), (.slice A1 ts.length c1), (.int .i64 q.1), (.slice A q.2.length c)] : Array Value) 27 (0, 0)) ∧ W.heap[w.heap.size + 1 + 1 + 1 + 1]? = some (.cells (#[(.int .i64 0)] : Array Value) 29 (0, 0)) ∧ Kd.R k51 51 W w.heap.size (fun _ => True) (.slice A q.2.length c) q.2)))
  (OwnFrom.and (Own.from (fun s A B l4 hs hg hr => ⟨own_cells hs.1 hg hr, own_cells hs.2.1 hg hr, own_cells hs.2.2.1 hg hr, own_cells hs.2.2.2.1 hg hr, own_cells hs.2.2.2.2 hg hr⟩) _) (OwnFrom.and (ownFrom_below (Nat.le_refl _) (by have := HS.out; omega)) (OwnFrom.and (ownFrom_below (Nat.le_refl _) (Nat.le_refl _)) (fun _ _ _ _ hs _ _ => hs))))
  (fun c => fun s A B l4 hs hg hr => by
   obtain ⟨c6, x, p, e1, e2, e3, e4, e5, e6, e7⟩ := hs
   refine ⟨c6, x, p, e1, e2, e3, e4, e5, (ownFrom_below (β := Unit) (Nat.le_refl _) (by have := HS.out; omega)) () A B l4 e6 hg hr, ?_⟩
   have j1 := fun r e => (hr r e).2
   rcases e7 with ⟨h1, h2, h3⟩ | ⟨h1, q, Aq, cq, h2, h3, h4, h5⟩
   ·
    exact .inl ⟨h1, own_cells h2 hg j1, own_cells h3 hg j1⟩
   exact .inr ⟨h1, q, Aq, cq, h2, own_cells h3 hg j1, own_cells h4 hg j1, own_R h5 hg j1⟩)
  ⟨⟨B4.out, B6.out, B7.out, B8.out, B9.out⟩, HB.out, Below.refl _ _, fun y hy => by cases hy⟩
  (fun x a' W => ∃ Bx, w5.heap.size ≤ Bx ∧ W.heap[Bx]? = some (.cells #[.int .i64 (rd_T51 ys (x.val : Int)).f0, .int .i64 (rd_T51 ys (x.val : Int)).f1, .int .i64 (rd_T51 ys (x.val : Int)).f2, .int .i64 (rd_T51 ys (x.val : Int)).f3, .string (rd_T51 ys (x.val : Int)).f4] 51 (0, 0)) ∧ a' = { tmps := #[.agg #[(.string ky), (.string nm), (.slice A1 ts.length c1), (.int .i64 is), (.slice A2 xs.length c2)], .int .i64 now, .int .i64 token, .func (.func m) #[] lb, .pointer (some ⟨w.heap.size, 0, none⟩), undef, .pointer (some ⟨w.heap.size + 1, 0, none⟩), .pointer (some ⟨w.heap.size + 1 + 1, 0, none⟩), .pointer (some ⟨w.heap.size + 1 + 1 + 1, 0, none⟩), .pointer (some ⟨w.heap.size + 1 + 1 + 1 + 1, 0, none⟩), .int .i64 0, .int .i64 ((x.val : Nat) : Int), .pointer (some ⟨Bx, 0, none⟩), undef, undef, .tuple #[.agg #[(.string ky), (.string nm), (.slice A1 ts.length c1), (.int .i64 is'), (.slice A3 ys.length c3)], .int .i64 0], .agg #[(.string ky), (.string nm), (.slice A1 ts.length c1), (.int .i64 is), (.slice A2 xs.length c2)], .int .i64 now, .tuple #[.agg #[(.string ky), (.string nm), (.slice A1 ts.length c1), (.int .i64 is'), (.slice A3 ys.length c3)], .int .i64 0], .agg #[(.string ky), (.string nm), (.slice A1 ts.length c1), (.int .i64 is'), (.slice A3 ys.length c3)], .int .i64 0, .int .i64 0, .bool false, undef, undef, .agg #[(.string ky), (.string nm), (.slice A1 ts.length c1), (.int .i64 is'), (.slice A3 ys.length c3)], .func (.func 78) #[] #[.pointer (some ⟨gb, 0, none⟩)], .int .i64 ((x.val : Nat) : Int), .agg #[.int .i64 (rd_T51 ys (x.val : Int)).f0, .int .i64 (rd_T51 ys (x.val : Int)).f1, .int .i64 (rd_T51 ys (x.val : Int)).f2, .int .i64 (rd_T51 ys (x.val : Int)).f3, .string (rd_T51 ys (x.val : Int)).f4], undef, undef, undef, undef, undef, undef, undef, undef, undef, undef, undef, undef, undef, undef, undef, undef, undef, undef, undef, undef, undef, undef, undef, undef, undef, undef, undef, undef, undef, undef, undef, undef, undef, undef, undef, undef, undef], defers := [] })
  (fun x a' => Own.from (fun s A B l4 hs hg hr => by obtain ⟨Bx, h1, h2, h3⟩ := hs; exact ⟨Bx, h1, own_cells h2 hg hr, h3⟩) _) ?assign ?body ?done ?stop
 case assign =>
  rintro l g3 x W K ⟨⟨h4, h6, h7, h8, h9⟩, hB, g5, hN⟩ hK
  have Z4 := am h4
  have Z6 := am h6
  have Z7 := am h7
  have Z8 := am h8
  have Z9 := am h9
  have b8 := am hB
  have a7 := am g5
  have i0 := am hN
  clear h4 h6 h7 h8 h9 hB g5 hN
  dsimp only [encF]
  gi_wp2
  exact hK _ _ ((KeepsOthers.alloc _ _).from _) ((Below.refl _ W).alloc a7.out.size _) ⟨⟨blk_alloc Z4.out _, blk_alloc Z6.out _, blk_alloc Z7.out _, blk_alloc Z8.out _, blk_alloc Z9.out _⟩, below_alloc b8.out _, below_alloc a7.out _, i0.out⟩ ⟨W.heap.size, a7.out.size, blk_new _ _, rfl⟩
 case body =>
  rintro l g3 x a' W hl hr ⟨⟨h4, h6, h7, h8, h9⟩, hB, g5, hN⟩ ⟨Bx, n3, bX, rfl⟩ q1
  have Z4 := am h4
  have Z6 := am h6
  have Z7 := am h7
  have Z8 := am h8
  have Z9 := am h9
  have b8 := am hB
  have a7 := am g5
  have i0 := am hN
  have HX := am bX
  have s7 := am n3
  clear h4 h6 h7 h8 h9 hB g5 hN bX hr hl q1 n3
  have x0 : W.cell? ⟨Bx, 0, none⟩ = some (.int .i64 (rd_T51 ys (x.val : Int)).f0) := bc HX.out
  have x3 : W.cell? ⟨Bx, 3, none⟩ = some (.int .i64 (rd_T51 ys (x.val : Int)).f3) := bc HX.out
  have k6 : W.cell? ⟨w.heap.size + 1, 0, none⟩ = some (.int .i64 token) := bc Z6.out
  by_cases q0 : (rd_T51 ys (x.val : Int)).f0 = 2
  case neg =>
   have k1 : Aside0 (¬ isHeld ys token x) := ⟨fun h => q0 h.1⟩
   have E1 := beq_eq_false_iff_ne.2 q0
   gi_wp2
   refine ⟨KeepsFrom.refl _ _, Below.refl _ _, ⟨Z4.out, Z6.out, Z7.out, Z8.out, Z9.out⟩, b8.out, a7.out, fun y hy => ?_⟩
   rcases List.mem_append.1 hy with hy | hy
   ·
    exact i0.out y hy
   obtain rfl := List.mem_singleton.1 hy
   exact k1.out
  by_cases q3 : (rd_T51 ys (x.val : Int)).f3 = token
  case neg =>
   have k1 : Aside0 (¬ isHeld ys token x) := ⟨fun h => q3 h.2⟩
   have E1 := beq_eq_false_iff_ne.2 q3
   gi_wp2
   refine ⟨KeepsFrom.refl _ _, Below.refl _ _, ⟨Z4.out, Z6.out, Z7.out, Z8.out, Z9.out⟩, b8.out, a7.out, fun y hy => ?_⟩
   rcases List.mem_append.1 hy with hy | hy
   ·
    exact i0.out y hy
   obtain rfl := List.mem_singleton.1 hy
   exact k1.out
  have hx : isHeld ys token x := ⟨q0, q3⟩
  obtain ⟨p, hp, hq⟩ := goodHeld_at HG.out x hx
  have m5 := am hx
  have l9 := am q0
  have E1 := beq_iff_eq.2 q0
  have j2 := am q3
  have E3 := beq_iff_eq.2 q3
  have HI := am x.isLt
  have HP := am hp
  have HQ := am hq
  clear hx hp hq
  have x1 : W.cell? ⟨Bx, 1, none⟩ = some (.int .i64 (rd_T51 ys (x.val : Int)).f1) := bc HX.out
  have x2 : W.cell? ⟨Bx, 2, none⟩ = some (.int .i64 (rd_T51 ys (x.val : Int)).f2) := bc HX.out
  have x4 : W.cell? ⟨Bx, 4, none⟩ = some (.string (rd_T51 ys (x.val : Int)).f4) := bc HX.out
  have p0 : (0 : Int) ≤ ((x.val : Nat) : Int) := by omega
  have p1 : ((x.val : Nat) : Int) < (ys.length : Int) := by have := HI.out; omega
  have p2 : ((x.val : Nat) : Int) < (ts.length : Int) := by have h_ := k0.out; have := HI.out; (try dsimp only at h_); omega
  obtain ⟨ad, A0, c0, eA, a0, a1, a2, a3, n6, n5⟩ := at_T49 (Kd.C_below HT.out b8.out) ((x.val : Nat) : Int) p0 p2
  rw [Int.toNat_natCast] at a0 a1 a2 a3
  have m3 := am n6
  have m1 := am n5
  clear n6 n5
  subst eA
  have k7 : W.cell? ⟨w.heap.size + 1 + 1, 0, none⟩ = some (.func (.func m) #[] lb) := bc Z7.out
  have i3 : W.cell? ⟨w.heap.size, 2, none⟩ = some (.slice (some ad) ts.length c1) := bc Z4.out
  gi_wp2
  clear q0 q3 E1 E3
  generalize o3 : rd_T51 ys ((x.val : Nat) : Int) = s at *
  generalize o4 : rd_T49 ts ((x.val : Nat) : Int) = t at *
  have m0 := am o3
  have m4 := am o4
  clear o3 o4
  have a4 := am (fun (W' : World) (hW : Below W.heap.size W W') (a : Addr) (v : Value) (h : W.cell? a = some v) => show W'.cell? a = some v from (hW.cell (World.block_lt_of_cell? W _ h)).trans h)
  refine startIn_ (n := 15) (S := fun w' => w'.cell? ⟨w.heap.size + 1 + 1, 0, none⟩ = some (.func (.func m) #[] lb) ∧ w'.cell? ⟨w.heap.size, 2, none⟩ = some (.slice (some ad) ts.length c1) ∧ w'.cell? (ad.add (x.val * 4)) = some (.slice A0 t.f0.length c0) ∧ w'.cell? ⟨(ad.add (x.val * 4)).block, (ad.add (x.val * 4)).off + 1, none⟩ = some (.int .i64 t.f1) ∧ w'.cell? ⟨(ad.add (x.val * 4)).block, (ad.add (x.val * 4)).off + 2, none⟩ = some (.int .i64 t.f2) ∧ w'.cell? ⟨(ad.add (x.val * 4)).block, (ad.add (x.val * 4)).off + 3, none⟩ = some (.int .i64 t.f3) ∧ w'.cell? ⟨Bx, 0, none⟩ = some (.int .i64 s.f0) ∧ w'.cell? ⟨Bx, 1, none⟩ = some (.int .i64 s.f1) ∧ w'.cell? ⟨Bx, 2, none⟩ = some (.int .i64 s.f2) ∧ w'.cell? ⟨Bx, 3, none⟩ = some (.int .i64 s.f3) ∧ w'.cell? ⟨Bx, 4, none⟩ = some (.string s.f4)) (ds := [13]) (ba 15 0) (by kernel_rfl) rfl rfl ⟨(a4.out _ (below_drew1 (Below.refl _ _)) _ _ k7), (a4.out _ (below_drew1 (Below.refl _ _)) _ _ i3), (a4.out _ (below_drew1 (Below.refl _ _)) _ _ a0), (a4.out _ (below_drew1 (Below.refl _ _)) _ _ a1), (a4.out _ (below_drew1 (Below.refl _ _)) _ _ a2), (a4.out _ (below_drew1 (Below.refl _ _)) _ _ a3), (a4.out _ (below_drew1 (Below.refl _ _)) _ _ x0), (a4.out _ (below_drew1 (Below.refl _ _)) _ _ x1), (a4.out _ (below_drew1 (Below.refl _ _)) _ _ x2), (a4.out _ (below_drew1 (Below.refl _ _)) _ _ x3), (a4.out _ (below_drew1 (Below.refl _ _)) _ _ x4)⟩ ?_ (by kernel_rfl) (fun a8 => ?_)
  ·
   rintro ⟨_, _, h_⟩; exact h_
  refine ph 1 40 (ba 15 2) ?_
  refine ph 2 41 (ba 15 6) ?_
  refine ph 4 43 (ba 15 22) ?_
  refine th 0 39 (ba 15 23) a8 ?_
  refine th 3 42 (ba 15 31) a8 ?_
  refine ph 5 44 (ba 15 63) ?_
  refine th 6 45 (ba 15 127) a8 ?_
  refine th 7 46 (ba 15 255) a8 ?_
  refine join_ (σ := Nat) 2 (ba 15 8191) (fun s_ => [(47, .tuple #[.agg #[(.int .i64 p.1.f0), (.int .i64 p.1.f1), (.int .i64 p.1.f2), (.int .i64 p.1.f3), (.string p.1.f4)], .int .i64 p.2]), (38, .tuple #[.agg #[(.int .i64 p.1.f0), (.int .i64 p.1.f1), (.int .i64 p.1.f2), (.int .i64 p.1.f3), (.string p.1.f4)], .int .i64 p.2]), (48, .agg #[(.int .i64 p.1.f0), (.int .i64 p.1.f1), (.int .i64 p.1.f2), (.int .i64 p.1.f3), (.string p.1.f4)]), (49, .int .i64 p.2), (13, .pointer (some ⟨s_, 0, none⟩))]) (fun s_ w' => (w'.cell? ⟨w.heap.size + 1 + 1, 0, none⟩ = some (.func (.func m) #[] lb) ∧ w'.cell? ⟨w.heap.size, 2, none⟩ = some (.slice (some ad) ts.length c1) ∧ w'.cell? (ad.add (x.val * 4)) = some (.slice A0 t.f0.length c0) ∧ w'.cell? ⟨(ad.add (x.val * 4)).block, (ad.add (x.val * 4)).off + 1, none⟩ = some (.int .i64 t.f1) ∧ w'.cell? ⟨(ad.add (x.val * 4)).block, (ad.add (x.val * 4)).off + 2, none⟩ = some (.int .i64 t.f2) ∧ w'.cell? ⟨(ad.add (x.val * 4)).block, (ad.add (x.val * 4)).off + 3, none⟩ = some (.int .i64 t.f3) ∧ w'.cell? ⟨Bx, 0, none⟩ = some (.int .i64 s.f0) ∧ w'.cell? ⟨Bx, 1, none⟩ = some (.int .i64 s.f1) ∧ w'.cell? ⟨Bx, 2, none⟩ = some (.int .i64 s.f2) ∧ w'.cell? ⟨Bx, 3, none⟩ = some (.int .i64 s.f3) ∧ w'.cell? ⟨Bx, 4, none⟩ = some (.string s.f4)) ∧ W.heap.size ≤ s_ ∧ w'.heap[s_]? = some (.cells #[(.int .i64 0), (.int .i64 0), (.int .i64 0), (.int .i64 0), (.string (⟨#[]⟩ : ByteArray))] 51 (0, 0)) ∧ Below W.heap.size W w') ?_ ?_
  rotate_left
  ·
   intro g1
   refine two_ (i := 8) (j := 12) (Ni := some 47) (Nj := some 13) (ba 15 511) (ba 15 4351) rfl rfl rfl rfl (by kernel_rfl) (by decide) (by decide) (fun K hK => ?_) (fun K hK => ?_)
   ·
    skip
    refine goesV_ HF.out.1 HF.out.2.1 HF.out.2.2 #[.agg #[.slice A0 t.f0.length c0, .int .i64 t.f1, .int .i64 t.f2, .int .i64 t.f3], .agg #[.int .i64 s.f0, .int .i64 s.f1, .int .i64 s.f2, .int .i64 s.f3, .string s.f4]] (by rfl) rfl rfl (by rfl) (by simp only [List.map_toArray, List.map_cons, List.map_nil, l9.out, j2.out]; rfl) ?_
    with_reducible refine (l6.out t s p A0 c0 HP.out m3.out _ (by (with_reducible repeat (first | apply below_alloc | apply below_drew1)); exact b8.out) (Kd.C_below m1.out (by (with_reducible repeat (first | apply below_alloc | apply below_drew1)); exact Below.refl W.heap.size W))).mono ?_
    rintro e w7 ⟨rfl, hb⟩
    refine ⟨_, rfl, ?_⟩
    have a6 := am (below_step (by (with_reducible repeat (first | apply below_alloc | apply below_drew1)); exact Below.refl W.heap.size W) hb)
    clear hb
    refine hK.out _ _ ⟨(a4.out _ (a6.out) _ _ k7), (a4.out _ (a6.out) _ _ i3), (a4.out _ (a6.out) _ _ a0), (a4.out _ (a6.out) _ _ a1), (a4.out _ (a6.out) _ _ a2), (a4.out _ (a6.out) _ _ a3), (a4.out _ (a6.out) _ _ x0), (a4.out _ (a6.out) _ _ x1), (a4.out _ (a6.out) _ _ x2), (a4.out _ (a6.out) _ _ x3), (a4.out _ (a6.out) _ _ x4)⟩ (fun a8 => ?_)
    clear hK K
    refine nh ?_
    refine ph 9 38 (ba 15 1023) ?_
    refine ph 10 48 (ba 15 2047) ?_
    refine ph 11 49 (ba 15 4095) ?_
    refine oh 12 13 (ba 15 8191) fun K hK => ?_
    refine value_ (w1 := ?_) (v := ?_) (by rfl) rfl ?_ ?_
    rotate_left 2
    ·
     go_simp
     constructor
     ·
      rfl
     rfl
    refine hK.out _ _ ⟨(a4.out _ (below_alloc (a6.out) _) _ _ k7), (a4.out _ (below_alloc (a6.out) _) _ _ i3), (a4.out _ (below_alloc (a6.out) _) _ _ a0), (a4.out _ (below_alloc (a6.out) _) _ _ a1), (a4.out _ (below_alloc (a6.out) _) _ _ a2), (a4.out _ (below_alloc (a6.out) _) _ _ a3), (a4.out _ (below_alloc (a6.out) _) _ _ x0), (a4.out _ (below_alloc (a6.out) _) _ _ x1), (a4.out _ (below_alloc (a6.out) _) _ _ x2), (a4.out _ (below_alloc (a6.out) _) _ _ x3), (a4.out _ (below_alloc (a6.out) _) _ _ x4)⟩ (fun a8 => ?_)
    clear hK K
    refine nh ?_
    exact norm_ (by simp only [putAll, Act.put, List.setIfInBounds_toArray, List.set_cons_zero, List.set_cons_succ]) (g1 w7.heap.size _ ⟨a8, a6.out.size, blk_new w7 (.cells #[(.int .i64 0), (.int .i64 0), (.int .i64 0), (.int .i64 0), (.string (⟨#[]⟩ : ByteArray))] 51), below_alloc a6.out _⟩)
   skip
   refine value_ (w1 := ?_) (v := ?_) (by rfl) rfl ?_ ?_
   rotate_left 2
   ·
    go_simp
    constructor
    ·
     rfl
    rfl
   refine hK.out _ _ ⟨(a4.out _ (below_alloc (below_drew1 (Below.refl _ _)) _) _ _ k7), (a4.out _ (below_alloc (below_drew1 (Below.refl _ _)) _) _ _ i3), (a4.out _ (below_alloc (below_drew1 (Below.refl _ _)) _) _ _ a0), (a4.out _ (below_alloc (below_drew1 (Below.refl _ _)) _) _ _ a1), (a4.out _ (below_alloc (below_drew1 (Below.refl _ _)) _) _ _ a2), (a4.out _ (below_alloc (below_drew1 (Below.refl _ _)) _) _ _ a3), (a4.out _ (below_alloc (below_drew1 (Below.refl _ _)) _) _ _ x0), (a4.out _ (below_alloc (below_drew1 (Below.refl _ _)) _) _ _ x1), (a4.out _ (below_alloc (below_drew1 (Below.refl _ _)) _) _ _ x2), (a4.out _ (below_alloc (below_drew1 (Below.refl _ _)) _) _ _ x3), (a4.out _ (below_alloc (below_drew1 (Below.refl _ _)) _) _ _ x4)⟩ (fun a8 => ?_)
   clear hK K
   refine nh ?_
   refine oh 8 47 (ba 15 4607) fun K hK => ?_
   refine goesV_ HF.out.1 HF.out.2.1 HF.out.2.2 #[.agg #[.slice A0 t.f0.length c0, .int .i64 t.f1, .int .i64 t.f2, .int .i64 t.f3], .agg #[.int .i64 s.f0, .int .i64 s.f1, .int .i64 s.f2, .int .i64 s.f3, .string s.f4]] (by rfl) rfl rfl (by rfl) (by simp only [List.map_toArray, List.map_cons, List.map_nil, l9.out, j2.out]; rfl) ?_
   with_reducible refine (l6.out t s p A0 c0 HP.out m3.out _ (by (with_reducible repeat (first | apply below_alloc | apply below_drew1)); exact b8.out) (Kd.C_below m1.out (by (with_reducible repeat (first | apply below_alloc | apply below_drew1)); exact Below.refl W.heap.size W))).mono ?_
   rintro e w7 ⟨rfl, hb⟩
   refine ⟨_, rfl, ?_⟩
   have a6 := am (below_step (by (with_reducible repeat (first | apply below_alloc | apply below_drew1)); exact Below.refl W.heap.size W) hb)
   have p5 := am (blk_below (show (W.alloc (.cells #[(.int .i64 0), (.int .i64 0), (.int .i64 0), (.int .i64 0), (.string (⟨#[]⟩ : ByteArray))] 51)).drew.heap[W.heap.size]? = some (.cells #[(.int .i64 0), (.int .i64 0), (.int .i64 0), (.int .i64 0), (.string (⟨#[]⟩ : ByteArray))] 51 (0, 0)) from blk_drew (blk_new W (.cells #[(.int .i64 0), (.int .i64 0), (.int .i64 0), (.int .i64 0), (.string (⟨#[]⟩ : ByteArray))] 51))) hb)
   clear hb
   refine hK.out _ _ ⟨(a4.out _ (a6.out) _ _ k7), (a4.out _ (a6.out) _ _ i3), (a4.out _ (a6.out) _ _ a0), (a4.out _ (a6.out) _ _ a1), (a4.out _ (a6.out) _ _ a2), (a4.out _ (a6.out) _ _ a3), (a4.out _ (a6.out) _ _ x0), (a4.out _ (a6.out) _ _ x1), (a4.out _ (a6.out) _ _ x2), (a4.out _ (a6.out) _ _ x3), (a4.out _ (a6.out) _ _ x4)⟩ (fun a8 => ?_)
   clear hK K
   refine nh ?_
   refine ph 9 38 (ba 15 5119) ?_
   refine ph 10 48 (ba 15 6143) ?_
   refine ph 11 49 (ba 15 8191) ?_
   exact norm_ (by simp only [putAll, Act.put, List.setIfInBounds_toArray, List.set_cons_zero, List.set_cons_succ]) (g1 W.heap.size _ ⟨a8, Nat.le_refl _, p5.out, a6.out⟩)
  rintro a5 w7 ⟨n4, o1, n7, n8⟩
  have b6 := am o1
  have BP := am n7
  have a6 := am n8
  have a8 := n4
  clear o1 n7 n8 n4
  have y0 : w7.cell? ⟨a5, 0, none⟩ = some (.int .i64 0) := bc BP.out
  have y1 : w7.cell? ⟨a5, 1, none⟩ = some (.int .i64 0) := bc BP.out
  have y2 : w7.cell? ⟨a5, 2, none⟩ = some (.int .i64 0) := bc BP.out
  have y3 : w7.cell? ⟨a5, 3, none⟩ = some (.int .i64 0) := bc BP.out
  have y4 : w7.cell? ⟨a5, 4, none⟩ = some (.string (⟨#[]⟩ : ByteArray)) := bc BP.out
  have s1 := blk_frozen BP.out 0
  have s3 := blk_frozen BP.out 1
  have s4 := blk_frozen BP.out 2
  have s5 := blk_frozen BP.out 3
  have s6 := blk_frozen BP.out 4
  refine norm_ (a' := ?_) ?_ ?_
  rotate_left
  ·
   simp only [putAll, Act.put, List.setIfInBounds_toArray, List.set_cons_zero, List.set_cons_succ]
   rfl
  refine last_ (i := 13) (N := none) (ba 15 16383) rfl rfl (by kernel_rfl) (by decide) (fun K hK => ?_)
  refine skip_ (w1 := ?_) (by rfl) rfl ?_ ?_
  rotate_left
  ·
   go_simp
   rfl
  refine hK.out _ _ ?_
  clear hK K
  refine ph 14 14 (ba 15 32767) ?_
  refine done_ (by kernel_rfl) ?_
  have X4 := am (show (((((w7.setCell ⟨a5, 0, none⟩ (.int .i64 p.1.f0)).setCell ⟨a5, 1, none⟩ (.int .i64 p.1.f1)).setCell ⟨a5, 2, none⟩ (.int .i64 p.1.f2)).setCell ⟨a5, 3, none⟩ (.int .i64 p.1.f3)).setCell ⟨a5, 4, none⟩ (.string p.1.f4)).heap[w.heap.size]? = some (.cells (#[(.string ky), (.string nm), (.slice (some ad) ts.length c1), (.int .i64 is'), (.slice A3 ys.length c3)] : Array Value) 27 (0, 0)) from (blk_far (blk_far (blk_far (blk_far (blk_far (blk_below Z4.out a6.out) (by have a9 := b6.out; have b5 := a7.out.size; have b7 := HS.out; show w.heap.size ≠ a5; omega) _) (by have a9 := b6.out; have b5 := a7.out.size; have b7 := HS.out; show w.heap.size ≠ a5; omega) _) (by have a9 := b6.out; have b5 := a7.out.size; have b7 := HS.out; show w.heap.size ≠ a5; omega) _) (by have a9 := b6.out; have b5 := a7.out.size; have b7 := HS.out; show w.heap.size ≠ a5; omega) _) (by have a9 := b6.out; have b5 := a7.out.size; have b7 := HS.out; show w.heap.size ≠ a5; omega) _))
  have X6 := am (show (((((w7.setCell ⟨a5, 0, none⟩ (.int .i64 p.1.f0)).setCell ⟨a5, 1, none⟩ (.int .i64 p.1.f1)).setCell ⟨a5, 2, none⟩ (.int .i64 p.1.f2)).setCell ⟨a5, 3, none⟩ (.int .i64 p.1.f3)).setCell ⟨a5, 4, none⟩ (.string p.1.f4)).heap[w.heap.size + 1]? = some (.cells (#[(.int .i64 token)] : Array Value) 3 (0, 0)) from (blk_far (blk_far (blk_far (blk_far (blk_far (blk_below Z6.out a6.out) (by have a9 := b6.out; have b5 := a7.out.size; have b7 := HS.out; show w.heap.size + 1 ≠ a5; omega) _) (by have a9 := b6.out; have b5 := a7.out.size; have b7 := HS.out; show w.heap.size + 1 ≠ a5; omega) _) (by have a9 := b6.out; have b5 := a7.out.size; have b7 := HS.out; show w.heap.size + 1 ≠ a5; omega) _) (by have a9 := b6.out; have b5 := a7.out.size; have b7 := HS.out; show w.heap.size + 1 ≠ a5; omega) _) (by have a9 := b6.out; have b5 := a7.out.size; have b7 := HS.out; show w.heap.size + 1 ≠ a5; omega) _))
  have X7 := am (show (((((w7.setCell ⟨a5, 0, none⟩ (.int .i64 p.1.f0)).setCell ⟨a5, 1, none⟩ (.int .i64 p.1.f1)).setCell ⟨a5, 2, none⟩ (.int .i64 p.1.f2)).setCell ⟨a5, 3, none⟩ (.int .i64 p.1.f3)).setCell ⟨a5, 4, none⟩ (.string p.1.f4)).heap[w.heap.size + 1 + 1]? = some (.cells (#[(.func (.func m) #[] lb)] : Array Value) 74 (0, 0)) from (blk_far (blk_far (blk_far (blk_far (blk_far (blk_below Z7.out a6.out) (by have a9 := b6.out; have b5 := a7.out.size; have b7 := HS.out; show w.heap.size + 1 + 1 ≠ a5; omega) _) (by have a9 := b6.out; have b5 := a7.out.size; have b7 := HS.out; show w.heap.size + 1 + 1 ≠ a5; omega) _) (by have a9 := b6.out; have b5 := a7.out.size; have b7 := HS.out; show w.heap.size + 1 + 1 ≠ a5; omega) _) (by have a9 := b6.out; have b5 := a7.out.size; have b7 := HS.out; show w.heap.size + 1 + 1 ≠ a5; omega) _) (by have a9 := b6.out; have b5 := a7.out.size; have b7 := HS.out; show w.heap.size + 1 + 1 ≠ a5; omega) _))
  have X8 := am (show (((((w7.setCell ⟨a5, 0, none⟩ (.int .i64 p.1.f0)).setCell ⟨a5, 1, none⟩ (.int .i64 p.1.f1)).setCell ⟨a5, 2, none⟩ (.int .i64 p.1.f2)).setCell ⟨a5, 3, none⟩ (.int .i64 p.1.f3)).setCell ⟨a5, 4, none⟩ (.string p.1.f4)).heap[w.heap.size + 1 + 1 + 1]? = some (.cells (#[(.string (⟨#[]⟩ : ByteArray)), (.string (⟨#[]⟩ : ByteArray)), (.slice none 0 0), (.int .i64 0), (.slice none 0 0)] : Array Value) 27 (0, 0)) from (blk_far (blk_far (blk_far (blk_far (blk_far (blk_below Z8.out a6.out) (by have a9 := b6.out; have b5 := a7.out.size; have b7 := HS.out; show w.heap.size + 1 + 1 + 1 ≠ a5; omega) _) (by have a9 := b6.out; have b5 := a7.out.size; have b7 := HS.out; show w.heap.size + 1 + 1 + 1 ≠ a5; omega) _) (by have a9 := b6.out; have b5 := a7.out.size; have b7 := HS.out; show w.heap.size + 1 + 1 + 1 ≠ a5; omega) _) (by have a9 := b6.out; have b5 := a7.out.size; have b7 := HS.out; show w.heap.size + 1 + 1 + 1 ≠ a5; omega) _) (by have a9 := b6.out; have b5 := a7.out.size; have b7 := HS.out; show w.heap.size + 1 + 1 + 1 ≠ a5; omega) _))
  have X9 := am (show (((((w7.setCell ⟨a5, 0, none⟩ (.int .i64 p.1.f0)).setCell ⟨a5, 1, none⟩ (.int .i64 p.1.f1)).setCell ⟨a5, 2, none⟩ (.int .i64 p.1.f2)).setCell ⟨a5, 3, none⟩ (.int .i64 p.1.f3)).setCell ⟨a5, 4, none⟩ (.string p.1.f4)).heap[w.heap.size + 1 + 1 + 1 + 1]? = some (.cells (#[(.int .i64 0)] : Array Value) 29 (0, 0)) from (blk_far (blk_far (blk_far (blk_far (blk_far (blk_below Z9.out a6.out) (by have a9 := b6.out; have b5 := a7.out.size; have b7 := HS.out; show w.heap.size + 1 + 1 + 1 + 1 ≠ a5; omega) _) (by have a9 := b6.out; have b5 := a7.out.size; have b7 := HS.out; show w.heap.size + 1 + 1 + 1 + 1 ≠ a5; omega) _) (by have a9 := b6.out; have b5 := a7.out.size; have b7 := HS.out; show w.heap.size + 1 + 1 + 1 + 1 ≠ a5; omega) _) (by have a9 := b6.out; have b5 := a7.out.size; have b7 := HS.out; show w.heap.size + 1 + 1 + 1 + 1 ≠ a5; omega) _) (by have a9 := b6.out; have b5 := a7.out.size; have b7 := HS.out; show w.heap.size + 1 + 1 + 1 + 1 ≠ a5; omega) _))
  have XP := am (show (((((w7.setCell ⟨a5, 0, none⟩ (.int .i64 p.1.f0)).setCell ⟨a5, 1, none⟩ (.int .i64 p.1.f1)).setCell ⟨a5, 2, none⟩ (.int .i64 p.1.f2)).setCell ⟨a5, 3, none⟩ (.int .i64 p.1.f3)).setCell ⟨a5, 4, none⟩ (.string p.1.f4)).heap[a5]? = some (.cells #[(.int .i64 p.1.f0), (.int .i64 p.1.f1), (.int .i64 p.1.f2), (.int .i64 p.1.f3), (.string p.1.f4)] 51 (0, 0)) from (blk_put (cs := #[(.int .i64 p.1.f0), (.int .i64 p.1.f1), (.int .i64 p.1.f2), (.int .i64 p.1.f3), (.string (⟨#[]⟩ : ByteArray))]) (cs' := #[(.int .i64 p.1.f0), (.int .i64 p.1.f1), (.int .i64 p.1.f2), (.int .i64 p.1.f3), (.string p.1.f4)]) (blk_put (cs := #[(.int .i64 p.1.f0), (.int .i64 p.1.f1), (.int .i64 p.1.f2), (.int .i64 0), (.string (⟨#[]⟩ : ByteArray))]) (cs' := #[(.int .i64 p.1.f0), (.int .i64 p.1.f1), (.int .i64 p.1.f2), (.int .i64 p.1.f3), (.string (⟨#[]⟩ : ByteArray))]) (blk_put (cs := #[(.int .i64 p.1.f0), (.int .i64 p.1.f1), (.int .i64 0), (.int .i64 0), (.string (⟨#[]⟩ : ByteArray))]) (cs' := #[(.int .i64 p.1.f0), (.int .i64 p.1.f1), (.int .i64 p.1.f2), (.int .i64 0), (.string (⟨#[]⟩ : ByteArray))]) (blk_put (cs := #[(.int .i64 p.1.f0), (.int .i64 0), (.int .i64 0), (.int .i64 0), (.string (⟨#[]⟩ : ByteArray))]) (cs' := #[(.int .i64 p.1.f0), (.int .i64 p.1.f1), (.int .i64 0), (.int .i64 0), (.string (⟨#[]⟩ : ByteArray))]) (blk_put (cs := #[(.int .i64 0), (.int .i64 0), (.int .i64 0), (.int .i64 0), (.string (⟨#[]⟩ : ByteArray))]) (cs' := #[(.int .i64 p.1.f0), (.int .i64 0), (.int .i64 0), (.int .i64 0), (.string (⟨#[]⟩ : ByteArray))]) BP.out 0 _ rfl) 1 _ rfl) 2 _ rfl) 3 _ rfl) 4 _ rfl))
  have b9 := am (show w5.heap.size ≤ a5 from Nat.le_trans a7.out.size b6.out)
  have g0 := am (show Below w.heap.size w (((((w7.setCell ⟨a5, 0, none⟩ (.int .i64 p.1.f0)).setCell ⟨a5, 1, none⟩ (.int .i64 p.1.f1)).setCell ⟨a5, 2, none⟩ (.int .i64 p.1.f2)).setCell ⟨a5, 3, none⟩ (.int .i64 p.1.f3)).setCell ⟨a5, 4, none⟩ (.string p.1.f4)) from (below_set (below_set (below_set (below_set (below_set (below_step b8.out a6.out) (by have a9 := b9.out; have b5 := HS.out; show w.heap.size ≤ a5; omega)) (by have a9 := b9.out; have b5 := HS.out; show w.heap.size ≤ a5; omega)) (by have a9 := b9.out; have b5 := HS.out; show w.heap.size ≤ a5; omega)) (by have a9 := b9.out; have b5 := HS.out; show w.heap.size ≤ a5; omega)) (by have a9 := b9.out; have b5 := HS.out; show w.heap.size ≤ a5; omega)))
  have i5 := am (show Below w5.heap.size w5 (((((w7.setCell ⟨a5, 0, none⟩ (.int .i64 p.1.f0)).setCell ⟨a5, 1, none⟩ (.int .i64 p.1.f1)).setCell ⟨a5, 2, none⟩ (.int .i64 p.1.f2)).setCell ⟨a5, 3, none⟩ (.int .i64 p.1.f3)).setCell ⟨a5, 4, none⟩ (.string p.1.f4)) from (below_set (below_set (below_set (below_set (below_set (below_step a7.out a6.out) b9.out) b9.out) b9.out) b9.out) b9.out))
  have KF := am (show KeepsFrom w5.heap.size W (((((w7.setCell ⟨a5, 0, none⟩ (.int .i64 p.1.f0)).setCell ⟨a5, 1, none⟩ (.int .i64 p.1.f1)).setCell ⟨a5, 2, none⟩ (.int .i64 p.1.f2)).setCell ⟨a5, 3, none⟩ (.int .i64 p.1.f3)).setCell ⟨a5, 4, none⟩ (.string p.1.f4)) from (KeepsFrom.trans (KeepsFrom.trans (KeepsFrom.trans (KeepsFrom.trans (KeepsFrom.trans ((keeps_below a6.out).from w5.heap.size) ((KeepsOthers.setCell _ _ _).from _)) ((KeepsOthers.setCell _ _ _).from _)) ((KeepsOthers.setCell _ _ _).from _)) ((KeepsOthers.setCell _ _ _).from _)) ((KeepsOthers.setCell _ _ _).from _)))
  clear a8 a4 a6 b6 BP HX k7 i3 k6 x0 x1 x2 x3 x4 a0 a1 a2 a3 y0 y1 y2 y3 y4 s1 s3 s4 s5 s6 b8 a7 Z4 Z6 Z7 Z8 Z9
  have Z4 := X4
  have Z6 := X6
  have Z7 := X7
  have Z8 := X8
  have Z9 := X9
  have b8 := g0
  have a7 := i5
  clear g0 i5 X4 X6 X7 X8 X9
  generalize (((((w7.setCell ⟨a5, 0, none⟩ (.int .i64 p.1.f0)).setCell ⟨a5, 1, none⟩ (.int .i64 p.1.f1)).setCell ⟨a5, 2, none⟩ (.int .i64 p.1.f2)).setCell ⟨a5, 3, none⟩ (.int .i64 p.1.f3)).setCell ⟨a5, 4, none⟩ (.string p.1.f4)) = w8 at *
  by_cases q2 : p.2 = 0
  case neg =>
   have k2 := am q2
   have E2 := beq_eq_false_iff_ne.2 q2
   clear q2
   obtain ⟨d0, d1, d2, d3, d4⟩ := ce5 Z8.out
   obtain ⟨k4, k5, k8, k9, l0⟩ := z5 Z8.out
   have q0 := ce1 Z9.out
   have l3 := z1 Z9.out
   gi_wp2
   exact ⟨(by repeat (first | exact KF.out | refine KeepsFrom.trans ?_ ((KeepsOthers.setCell _ _ _).from _))), g3, x, p, rfl, i0.out, m5.out, (by rw [m0.out, m4.out]; exact HP.out), rfl, (below_set (below_set (below_set (below_set (below_set (below_set b8.out (by show w.heap.size ≤ w.heap.size + 1 + 1 + 1; omega)) (by show w.heap.size ≤ w.heap.size + 1 + 1 + 1; omega)) (by show w.heap.size ≤ w.heap.size + 1 + 1 + 1; omega)) (by show w.heap.size ≤ w.heap.size + 1 + 1 + 1; omega)) (by show w.heap.size ≤ w.heap.size + 1 + 1 + 1; omega)) (by show w.heap.size ≤ w.heap.size + 1 + 1 + 1 + 1; omega)), .inl ⟨k2.out, blk_far (blk_put (cs := #[(.string (⟨#[]⟩ : ByteArray)), (.string (⟨#[]⟩ : ByteArray)), (.slice none 0 0), (.int .i64 0), (.slice none 0 0)]) (cs' := #[(.string (⟨#[]⟩ : ByteArray)), (.string (⟨#[]⟩ : ByteArray)), (.slice none 0 0), (.int .i64 0), (.slice none 0 0)]) (blk_put (cs := #[(.string (⟨#[]⟩ : ByteArray)), (.string (⟨#[]⟩ : ByteArray)), (.slice none 0 0), (.int .i64 0), (.slice none 0 0)]) (cs' := #[(.string (⟨#[]⟩ : ByteArray)), (.string (⟨#[]⟩ : ByteArray)), (.slice none 0 0), (.int .i64 0), (.slice none 0 0)]) (blk_put (cs := #[(.string (⟨#[]⟩ : ByteArray)), (.string (⟨#[]⟩ : ByteArray)), (.slice none 0 0), (.int .i64 0), (.slice none 0 0)]) (cs' := #[(.string (⟨#[]⟩ : ByteArray)), (.string (⟨#[]⟩ : ByteArray)), (.slice none 0 0), (.int .i64 0), (.slice none 0 0)]) (blk_put (cs := #[(.string (⟨#[]⟩ : ByteArray)), (.string (⟨#[]⟩ : ByteArray)), (.slice none 0 0), (.int .i64 0), (.slice none 0 0)]) (cs' := #[(.string (⟨#[]⟩ : ByteArray)), (.string (⟨#[]⟩ : ByteArray)), (.slice none 0 0), (.int .i64 0), (.slice none 0 0)]) (blk_put (cs := #[(.string (⟨#[]⟩ : ByteArray)), (.string (⟨#[]⟩ : ByteArray)), (.slice none 0 0), (.int .i64 0), (.slice none 0 0)]) (cs' := #[(.string (⟨#[]⟩ : ByteArray)), (.string (⟨#[]⟩ : ByteArray)), (.slice none 0 0), (.int .i64 0), (.slice none 0 0)]) Z8.out 0 _ rfl) 1 _ rfl) 2 _ rfl) 3 _ rfl) 4 _ rfl) (by show w.heap.size + 1 + 1 + 1 ≠ w.heap.size + 1 + 1 + 1 + 1; omega) _, (blk_put (cs := #[.int .i64 0]) (cs' := #[.int .i64 p.2]) (blk_far (blk_far (blk_far (blk_far (blk_far Z9.out (by show w.heap.size + 1 + 1 + 1 + 1 ≠ w.heap.size + 1 + 1 + 1; omega) _) (by show w.heap.size + 1 + 1 + 1 + 1 ≠ w.heap.size + 1 + 1 + 1; omega) _) (by show w.heap.size + 1 + 1 + 1 + 1 ≠ w.heap.size + 1 + 1 + 1; omega) _) (by show w.heap.size + 1 + 1 + 1 + 1 ≠ w.heap.size + 1 + 1 + 1; omega) _) (by show w.heap.size + 1 + 1 + 1 + 1 ≠ w.heap.size + 1 + 1 + 1; omega) _) 0 _ rfl)⟩⟩
  obtain ⟨q, hq⟩ := HQ.out q2
  have k2 := am q2
  have HM := am hq
  have E2 := beq_iff_eq.2 q2
  clear q2 hq
  obtain ⟨b0, b1, b2, b3, b4⟩ := ce5 Z4.out
  have i1 := blk_frozen Z4.out 4
  gi_wp2_with (first | ((first | (refine ⟨trivial, ?_⟩; gi_at_call 37) | gi_at_call 37); refine (CallsIn.inRound l (callsIn_wide.2 (clone_calls A3 c3 ys _ (RowOf.reads (RowOf.below H3.out a7.out) HC.out b8.out) (by have h_ := k0.out; (try dsimp only at h_); omega)))).mono ?_; rintro e w9 ⟨v9, rfl, ho, hb⟩; obtain ⟨A9, c9, e9⟩ := Kd.R_slice ho; subst e9; have H9 := am (Kd.R_lower ho (below_size b8.out)); have X4 := am (blk_below Z4.out hb); have X8 := am (blk_below Z8.out hb); have X9 := am (blk_below Z9.out hb); have m7 := am (blk_below XP.out hb); have g0 := am (below_step b8.out hb); have i5 := am (below_step a7.out hb); have i6 := am (KeepsFrom.trans KF.out ((keeps_below hb).from _)); clear Z4 Z8 Z9 Z6 Z7 XP b8 a7 KF hb ho b0 b1 b2 b3 b4 i1; have Z4 := X4; have Z8 := X8; have Z9 := X9; have XP := m7; have b8 := g0; have a7 := i5; have KF := i6; clear X4 X8 X9 m7 g0 i5 i6; obtain ⟨gr, s8, e6, i9, s9, k3, i2⟩ := Kd.R_form H9.out (by have := HI.out; omega); injection e6 with e6 e7 e8; subst e6; subst e8; clear e7; obtain ⟨cc, p9, l1, h0, o0⟩ := Kd.R_elem H9.out z51 ((x.val : Nat) : Int) (by omega) (by have := HI.out; omega); rw [Int.toNat_natCast] at h0 o0; generalize ys.getD (((x.val : Nat) : Int)).toNat z51 = s2 at l1; obtain rfl := X.k51_openM l1; clear l1 p9; have t0 : w9.cell? ⟨gr, x.val * 5, none⟩ = some (.int .i64 s2.f0) := h0 0 _ rfl; have t1 : w9.cell? ⟨gr, x.val * 5 + 1, none⟩ = some (.int .i64 s2.f1) := h0 1 _ rfl; have t2 : w9.cell? ⟨gr, x.val * 5 + 2, none⟩ = some (.int .i64 s2.f2) := h0 2 _ rfl; have t3 : w9.cell? ⟨gr, x.val * 5 + 3, none⟩ = some (.int .i64 s2.f3) := h0 3 _ rfl; have t4 : w9.cell? ⟨gr, x.val * 5 + 4, none⟩ = some (.string s2.f4) := h0 4 _ rfl; have r1 : w9.frozen? ⟨gr, x.val * 5, none⟩ = false := blk_frozen i2 _; have r2 : w9.frozen? ⟨gr, x.val * 5 + 1, none⟩ = false := blk_frozen i2 _; have r3 : w9.frozen? ⟨gr, x.val * 5 + 2, none⟩ = false := blk_frozen i2 _; have r4 : w9.frozen? ⟨gr, x.val * 5 + 3, none⟩ = false := blk_frozen i2 _; have r5 : w9.frozen? ⟨gr, x.val * 5 + 4, none⟩ = false := blk_frozen i2 _; have m6 := am (Kd.own_blk (Kd.R_ne H9.out Z4.out (by decide))); have p6 := am (Kd.own_blk (Kd.R_ne H9.out Z8.out (by decide))); have p7 := am (Kd.own_blk (Kd.R_ne H9.out Z9.out (by decide))); have t9 := m6.out; have u4 := m6.out.symm; have l2 : w.heap.size ≠ a5 := (by have a9 := b9.out; have b5 := HS.out; omega); have r0 := l2.symm; have i4 := am i9; clear h0 o0 i9 i2; obtain ⟨b0, b1, b2, b3, b4⟩ := ce5 Z4.out; have i1 := blk_frozen Z4.out 4; have y0 : w9.cell? ⟨a5, 0, none⟩ = some (.int .i64 p.1.f0) := bc XP.out; have y1 : w9.cell? ⟨a5, 1, none⟩ = some (.int .i64 p.1.f1) := bc XP.out; have y2 : w9.cell? ⟨a5, 2, none⟩ = some (.int .i64 p.1.f2) := bc XP.out; have y3 : w9.cell? ⟨a5, 3, none⟩ = some (.int .i64 p.1.f3) := bc XP.out; have y4 : w9.cell? ⟨a5, 4, none⟩ = some (.string p.1.f4) := bc XP.out) | ((first | (refine ⟨trivial, ?_⟩; gi_at_call 30) | gi_at_call 30); refine (CallsIn.inRound l (callsIn_wide.2 (mend_n ky nm (some ad) c1 ts is' (some ⟨gr, 0, none⟩) c9 (ys.set x.val p.1) ys.length List.length_set q.1 q.2 (St5 (w9.setCell ⟨w.heap.size, 4, none⟩ (.slice (some ⟨gr, 0, none⟩) ys.length c9)) gr (x.val * 5) p.1) (Kd.C_below HT.out (st5_below _ _ _ _ _ (below_set b8.out (by show w.heap.size ≤ w.heap.size; omega)) i4.out)) (Kd.R_reads' (put51 _ w.heap.size gr ys.length c9 (fun _ => True) ys (Kd.R_set H9.out Z4.out (by decide) 4 (.slice (some ⟨gr, 0, none⟩) ys.length c9)) x.val HI.out p.1)).2.2 HM.out))).mono ?_; rintro e u6 ⟨u5, rfl, ho, hb⟩; obtain ⟨l5, n2, p8⟩ := Kd.R_slice ho; subst p8; have QB := am (show Below w.heap.size w (St5 (w9.setCell ⟨w.heap.size, 4, none⟩ (.slice (some ⟨gr, 0, none⟩) ys.length c9)) gr (x.val * 5) p.1) from (st5_below _ _ _ _ _ (below_set b8.out (by show w.heap.size ≤ w.heap.size; omega)) i4.out)); have p3 := am (Kd.R_lower ho (below_size QB.out)); have X8 := am (blk_below (show (St5 (w9.setCell ⟨w.heap.size, 4, none⟩ (.slice (some ⟨gr, 0, none⟩) ys.length c9)) gr (x.val * 5) p.1).heap[w.heap.size + 1 + 1 + 1]? = some (.cells (#[(.string (⟨#[]⟩ : ByteArray)), (.string (⟨#[]⟩ : ByteArray)), (.slice none 0 0), (.int .i64 0), (.slice none 0 0)] : Array Value) 27 (0, 0)) from st5_far _ _ _ _ _ _ _ (blk_far Z8.out (by show w.heap.size + 1 + 1 + 1 ≠ w.heap.size; omega) _) p6.out.symm) hb); have X9 := am (blk_below (show (St5 (w9.setCell ⟨w.heap.size, 4, none⟩ (.slice (some ⟨gr, 0, none⟩) ys.length c9)) gr (x.val * 5) p.1).heap[w.heap.size + 1 + 1 + 1 + 1]? = some (.cells (#[(.int .i64 0)] : Array Value) 29 (0, 0)) from st5_far _ _ _ _ _ _ _ (blk_far Z9.out (by show w.heap.size + 1 + 1 + 1 + 1 ≠ w.heap.size; omega) _) p7.out.symm) hb); have i6 := am (KeepsFrom.trans (show KeepsFrom w5.heap.size W (St5 (w9.setCell ⟨w.heap.size, 4, none⟩ (.slice (some ⟨gr, 0, none⟩) ys.length c9)) gr (x.val * 5) p.1) from KeepsFrom.trans (KeepsFrom.trans (KeepsFrom.trans (KeepsFrom.trans (KeepsFrom.trans (KeepsFrom.trans KF.out ((KeepsOthers.setCell _ _ _).from _)) ((KeepsOthers.setCell _ _ _).from _)) ((KeepsOthers.setCell _ _ _).from _)) ((KeepsOthers.setCell _ _ _).from _)) ((KeepsOthers.setCell _ _ _).from _)) ((KeepsOthers.setCell _ _ _).from _)) ((keeps_below hb).from _)); have g0 := am (below_step QB.out hb); clear Z4 Z8 Z9 XP b8 a7 KF QB hb ho H9 t0 t1 t2 t3 t4 r1 r2 r3 r4 r5 y0 y1 y2 y3 y4 i1 b0 b1 b2 b3 b4; have Z8 := X8; have Z9 := X9; have b8 := g0; have KF := i6; clear X8 X9 g0 i6; obtain ⟨d0, d1, d2, d3, d4⟩ := ce5 Z8.out; obtain ⟨k4, k5, k8, k9, l0⟩ := z5 Z8.out; have q0 := ce1 Z9.out; have l3 := z1 Z9.out))
  exact ⟨(by repeat (first | exact KF.out | refine KeepsFrom.trans ?_ ((KeepsOthers.setCell _ _ _).from _))), g3, x, p, rfl, i0.out, m5.out, (by rw [m0.out, m4.out]; exact HP.out), rfl, (below_set (below_set (below_set (below_set (below_set (below_set b8.out (by show w.heap.size ≤ w.heap.size + 1 + 1 + 1; omega)) (by show w.heap.size ≤ w.heap.size + 1 + 1 + 1; omega)) (by show w.heap.size ≤ w.heap.size + 1 + 1 + 1; omega)) (by show w.heap.size ≤ w.heap.size + 1 + 1 + 1; omega)) (by show w.heap.size ≤ w.heap.size + 1 + 1 + 1; omega)) (by show w.heap.size ≤ w.heap.size + 1 + 1 + 1 + 1; omega)), .inr ⟨k2.out, q, l5, n2, HM.out, blk_far (blk_put (cs := #[(.string ky), (.string nm), (.slice (some ad) ts.length c1), (.int .i64 q.1), (.slice none 0 0)]) (cs' := #[(.string ky), (.string nm), (.slice (some ad) ts.length c1), (.int .i64 q.1), (.slice l5 q.2.length n2)]) (blk_put (cs := #[(.string ky), (.string nm), (.slice (some ad) ts.length c1), (.int .i64 0), (.slice none 0 0)]) (cs' := #[(.string ky), (.string nm), (.slice (some ad) ts.length c1), (.int .i64 q.1), (.slice none 0 0)]) (blk_put (cs := #[(.string ky), (.string nm), (.slice none 0 0), (.int .i64 0), (.slice none 0 0)]) (cs' := #[(.string ky), (.string nm), (.slice (some ad) ts.length c1), (.int .i64 0), (.slice none 0 0)]) (blk_put (cs := #[(.string ky), (.string (⟨#[]⟩ : ByteArray)), (.slice none 0 0), (.int .i64 0), (.slice none 0 0)]) (cs' := #[(.string ky), (.string nm), (.slice none 0 0), (.int .i64 0), (.slice none 0 0)]) (blk_put (cs := #[(.string (⟨#[]⟩ : ByteArray)), (.string (⟨#[]⟩ : ByteArray)), (.slice none 0 0), (.int .i64 0), (.slice none 0 0)]) (cs' := #[(.string ky), (.string (⟨#[]⟩ : ByteArray)), (.slice none 0 0), (.int .i64 0), (.slice none 0 0)]) Z8.out 0 _ rfl) 1 _ rfl) 2 _ rfl) 3 _ rfl) 4 _ rfl) (by show w.heap.size + 1 + 1 + 1 ≠ w.heap.size + 1 + 1 + 1 + 1; omega) _, (blk_put (cs := #[.int .i64 0]) (cs' := #[.int .i64 0]) (blk_far (blk_far (blk_far (blk_far (blk_far Z9.out (by show w.heap.size + 1 + 1 + 1 + 1 ≠ w.heap.size + 1 + 1 + 1; omega) _) (by show w.heap.size + 1 + 1 + 1 + 1 ≠ w.heap.size + 1 + 1 + 1; omega) _) (by show w.heap.size + 1 + 1 + 1 + 1 ≠ w.heap.size + 1 + 1 + 1; omega) _) (by show w.heap.size + 1 + 1 + 1 + 1 ≠ w.heap.size + 1 + 1 + 1; omega) _) (by show w.heap.size + 1 + 1 + 1 + 1 ≠ w.heap.size + 1 + 1 + 1; omega) _) 0 _ rfl), (Kd.R_set (Kd.R_set (Kd.R_set (Kd.R_set (Kd.R_set (Kd.R_set p3.out Z8.out (by decide) 0 _) (blk_put (cs := #[(.string (⟨#[]⟩ : ByteArray)), (.string (⟨#[]⟩ : ByteArray)), (.slice none 0 0), (.int .i64 0), (.slice none 0 0)]) (cs' := #[(.string ky), (.string (⟨#[]⟩ : ByteArray)), (.slice none 0 0), (.int .i64 0), (.slice none 0 0)]) Z8.out 0 _ rfl) (by decide) 1 _) (blk_put (cs := #[(.string ky), (.string (⟨#[]⟩ : ByteArray)), (.slice none 0 0), (.int .i64 0), (.slice none 0 0)]) (cs' := #[(.string ky), (.string nm), (.slice none 0 0), (.int .i64 0), (.slice none 0 0)]) (blk_put (cs := #[(.string (⟨#[]⟩ : ByteArray)), (.string (⟨#[]⟩ : ByteArray)), (.slice none 0 0), (.int .i64 0), (.slice none 0 0)]) (cs' := #[(.string ky), (.string (⟨#[]⟩ : ByteArray)), (.slice none 0 0), (.int .i64 0), (.slice none 0 0)]) Z8.out 0 _ rfl) 1 _ rfl) (by decide) 2 _) (blk_put (cs := #[(.string ky), (.string nm), (.slice none 0 0), (.int .i64 0), (.slice none 0 0)]) (cs' := #[(.string ky), (.string nm), (.slice (some ad) ts.length c1), (.int .i64 0), (.slice none 0 0)]) (blk_put (cs := #[(.string ky), (.string (⟨#[]⟩ : ByteArray)), (.slice none 0 0), (.int .i64 0), (.slice none 0 0)]) (cs' := #[(.string ky), (.string nm), (.slice none 0 0), (.int .i64 0), (.slice none 0 0)]) (blk_put (cs := #[(.string (⟨#[]⟩ : ByteArray)), (.string (⟨#[]⟩ : ByteArray)), (.slice none 0 0), (.int .i64 0), (.slice none 0 0)]) (cs' := #[(.string ky), (.string (⟨#[]⟩ : ByteArray)), (.slice none 0 0), (.int .i64 0), (.slice none 0 0)]) Z8.out 0 _ rfl) 1 _ rfl) 2 _ rfl) (by decide) 3 _) (blk_put (cs := #[(.string ky), (.string nm), (.slice (some ad) ts.length c1), (.int .i64 0), (.slice none 0 0)]) (cs' := #[(.string ky), (.string nm), (.slice (some ad) ts.length c1), (.int .i64 q.1), (.slice none 0 0)]) (blk_put (cs := #[(.string ky), (.string nm), (.slice none 0 0), (.int .i64 0), (.slice none 0 0)]) (cs' := #[(.string ky), (.string nm), (.slice (some ad) ts.length c1), (.int .i64 0), (.slice none 0 0)]) (blk_put (cs := #[(.string ky), (.string (⟨#[]⟩ : ByteArray)), (.slice none 0 0), (.int .i64 0), (.slice none 0 0)]) (cs' := #[(.string ky), (.string nm), (.slice none 0 0), (.int .i64 0), (.slice none 0 0)]) (blk_put (cs := #[(.string (⟨#[]⟩ : ByteArray)), (.string (⟨#[]⟩ : ByteArray)), (.slice none 0 0), (.int .i64 0), (.slice none 0 0)]) (cs' := #[(.string ky), (.string (⟨#[]⟩ : ByteArray)), (.slice none 0 0), (.int .i64 0), (.slice none 0 0)]) Z8.out 0 _ rfl) 1 _ rfl) 2 _ rfl) 3 _ rfl) (by decide) 4 _) (blk_far (blk_far (blk_far (blk_far (blk_far Z9.out (by show w.heap.size + 1 + 1 + 1 + 1 ≠ w.heap.size + 1 + 1 + 1; omega) _) (by show w.heap.size + 1 + 1 + 1 + 1 ≠ w.heap.size + 1 + 1 + 1; omega) _) (by show w.heap.size + 1 + 1 + 1 + 1 ≠ w.heap.size + 1 + 1 + 1; omega) _) (by show w.heap.size + 1 + 1 + 1 + 1 ≠ w.heap.size + 1 + 1 + 1; omega) _) (by show w.heap.size + 1 + 1 + 1 + 1 ≠ w.heap.size + 1 + 1 + 1; omega) _) (by decide) 0 _)⟩⟩
 case done =>
  rintro D ls W hD rfl ⟨⟨h4, h6, h7, h8, h9⟩, hB, g5, hN⟩ hK
  have Z8 := am h8
  have Z9 := am h9
  have b8 := am hB
  have l7 := am hK
  have hl := heldL_skip ts is' ys token i7 (List.finRange ys.length) [] (by rw [uptoF_all] at hN; exact hN)
  rw [List.append_nil, l8.out] at hl
  obtain rfl : r = (191, 0, []) := by simpa [heldL] using hl
  clear h4 h6 h7 h8 h9 hB g5 hN hK hl
  obtain ⟨d0, d1, d2, d3, d4⟩ := ce5 Z8.out
  obtain ⟨k4, k5, k8, k9, l0⟩ := z5 Z8.out
  have q0 := ce1 Z9.out
  have l3 := z1 Z9.out
  gi_wp2
  have E8 := am (show ((((((W.setCell ⟨w.heap.size + 1 + 1 + 1, 0, none⟩ (.string (⟨#[]⟩ : ByteArray))).setCell ⟨w.heap.size + 1 + 1 + 1, 1, none⟩ (.string (⟨#[]⟩ : ByteArray))).setCell ⟨w.heap.size + 1 + 1 + 1, 2, none⟩ (.slice none 0 0)).setCell ⟨w.heap.size + 1 + 1 + 1, 3, none⟩ (.int .i64 0)).setCell ⟨w.heap.size + 1 + 1 + 1, 4, none⟩ (.slice none 0 0)).setCell ⟨w.heap.size + 1 + 1 + 1 + 1, 0, none⟩ (.int .i64 191)).heap[w.heap.size + 1 + 1 + 1]? = some (.cells (#[(.string (⟨#[]⟩ : ByteArray)), (.string (⟨#[]⟩ : ByteArray)), (.slice none 0 0), (.int .i64 0), (.slice none 0 0)] : Array Value) 27 (0, 0)) from blk_far (blk_put (cs := #[(.string (⟨#[]⟩ : ByteArray)), (.string (⟨#[]⟩ : ByteArray)), (.slice none 0 0), (.int .i64 0), (.slice none 0 0)]) (cs' := #[(.string (⟨#[]⟩ : ByteArray)), (.string (⟨#[]⟩ : ByteArray)), (.slice none 0 0), (.int .i64 0), (.slice none 0 0)]) (blk_put (cs := #[(.string (⟨#[]⟩ : ByteArray)), (.string (⟨#[]⟩ : ByteArray)), (.slice none 0 0), (.int .i64 0), (.slice none 0 0)]) (cs' := #[(.string (⟨#[]⟩ : ByteArray)), (.string (⟨#[]⟩ : ByteArray)), (.slice none 0 0), (.int .i64 0), (.slice none 0 0)]) (blk_put (cs := #[(.string (⟨#[]⟩ : ByteArray)), (.string (⟨#[]⟩ : ByteArray)), (.slice none 0 0), (.int .i64 0), (.slice none 0 0)]) (cs' := #[(.string (⟨#[]⟩ : ByteArray)), (.string (⟨#[]⟩ : ByteArray)), (.slice none 0 0), (.int .i64 0), (.slice none 0 0)]) (blk_put (cs := #[(.string (⟨#[]⟩ : ByteArray)), (.string (⟨#[]⟩ : ByteArray)), (.slice none 0 0), (.int .i64 0), (.slice none 0 0)]) (cs' := #[(.string (⟨#[]⟩ : ByteArray)), (.string (⟨#[]⟩ : ByteArray)), (.slice none 0 0), (.int .i64 0), (.slice none 0 0)]) (blk_put (cs := #[(.string (⟨#[]⟩ : ByteArray)), (.string (⟨#[]⟩ : ByteArray)), (.slice none 0 0), (.int .i64 0), (.slice none 0 0)]) (cs' := #[(.string (⟨#[]⟩ : ByteArray)), (.string (⟨#[]⟩ : ByteArray)), (.slice none 0 0), (.int .i64 0), (.slice none 0 0)]) Z8.out 0 _ rfl) 1 _ rfl) 2 _ rfl) 3 _ rfl) 4 _ rfl) (by show w.heap.size + 1 + 1 + 1 ≠ w.heap.size + 1 + 1 + 1 + 1; omega) _)
  have E9 := am (show ((((((W.setCell ⟨w.heap.size + 1 + 1 + 1, 0, none⟩ (.string (⟨#[]⟩ : ByteArray))).setCell ⟨w.heap.size + 1 + 1 + 1, 1, none⟩ (.string (⟨#[]⟩ : ByteArray))).setCell ⟨w.heap.size + 1 + 1 + 1, 2, none⟩ (.slice none 0 0)).setCell ⟨w.heap.size + 1 + 1 + 1, 3, none⟩ (.int .i64 0)).setCell ⟨w.heap.size + 1 + 1 + 1, 4, none⟩ (.slice none 0 0)).setCell ⟨w.heap.size + 1 + 1 + 1 + 1, 0, none⟩ (.int .i64 191)).heap[w.heap.size + 1 + 1 + 1 + 1]? = some (.cells (#[(.int .i64 191)] : Array Value) 29 (0, 0)) from (blk_put (cs := #[.int .i64 0]) (cs' := #[.int .i64 191]) (blk_far (blk_far (blk_far (blk_far (blk_far Z9.out (by show w.heap.size + 1 + 1 + 1 + 1 ≠ w.heap.size + 1 + 1 + 1; omega) _) (by show w.heap.size + 1 + 1 + 1 + 1 ≠ w.heap.size + 1 + 1 + 1; omega) _) (by show w.heap.size + 1 + 1 + 1 + 1 ≠ w.heap.size + 1 + 1 + 1; omega) _) (by show w.heap.size + 1 + 1 + 1 + 1 ≠ w.heap.size + 1 + 1 + 1; omega) _) (by show w.heap.size + 1 + 1 + 1 + 1 ≠ w.heap.size + 1 + 1 + 1; omega) _) 0 _ rfl))
  have EB := am (show Below w.heap.size w ((((((W.setCell ⟨w.heap.size + 1 + 1 + 1, 0, none⟩ (.string (⟨#[]⟩ : ByteArray))).setCell ⟨w.heap.size + 1 + 1 + 1, 1, none⟩ (.string (⟨#[]⟩ : ByteArray))).setCell ⟨w.heap.size + 1 + 1 + 1, 2, none⟩ (.slice none 0 0)).setCell ⟨w.heap.size + 1 + 1 + 1, 3, none⟩ (.int .i64 0)).setCell ⟨w.heap.size + 1 + 1 + 1, 4, none⟩ (.slice none 0 0)).setCell ⟨w.heap.size + 1 + 1 + 1 + 1, 0, none⟩ (.int .i64 191)) from (below_set (below_set (below_set (below_set (below_set (below_set b8.out (by show w.heap.size ≤ w.heap.size + 1 + 1 + 1; omega)) (by show w.heap.size ≤ w.heap.size + 1 + 1 + 1; omega)) (by show w.heap.size ≤ w.heap.size + 1 + 1 + 1; omega)) (by show w.heap.size ≤ w.heap.size + 1 + 1 + 1; omega)) (by show w.heap.size ≤ w.heap.size + 1 + 1 + 1; omega)) (by show w.heap.size ≤ w.heap.size + 1 + 1 + 1 + 1; omega)))
  have t6 : ∀ g_, g_ < w5.heap.size → D ≠ g_ := fun g_ h_ e_ => by omega
  have EK := am (show ((((((W.setCell ⟨w.heap.size + 1 + 1 + 1, 0, none⟩ (.string (⟨#[]⟩ : ByteArray))).setCell ⟨w.heap.size + 1 + 1 + 1, 1, none⟩ (.string (⟨#[]⟩ : ByteArray))).setCell ⟨w.heap.size + 1 + 1 + 1, 2, none⟩ (.slice none 0 0)).setCell ⟨w.heap.size + 1 + 1 + 1, 3, none⟩ (.int .i64 0)).setCell ⟨w.heap.size + 1 + 1 + 1, 4, none⟩ (.slice none 0 0)).setCell ⟨w.heap.size + 1 + 1 + 1 + 1, 0, none⟩ (.int .i64 191)).heap[D]? = some (.deferred (some [])) from ((Below.heap_setCell _ _ _ D (by show D ≠ w.heap.size + 1 + 1 + 1 + 1; have h_ := HS.out; omega)).trans ((Below.heap_setCell _ _ _ D (by show D ≠ w.heap.size + 1 + 1 + 1; have h_ := HS.out; omega)).trans ((Below.heap_setCell _ _ _ D (by show D ≠ w.heap.size + 1 + 1 + 1; have h_ := HS.out; omega)).trans ((Below.heap_setCell _ _ _ D (by show D ≠ w.heap.size + 1 + 1 + 1; have h_ := HS.out; omega)).trans ((Below.heap_setCell _ _ _ D (by show D ≠ w.heap.size + 1 + 1 + 1; have h_ := HS.out; omega)).trans ((Below.heap_setCell _ _ _ D (by show D ≠ w.heap.size + 1 + 1 + 1; have h_ := HS.out; omega)).trans l7.out)))))))
  clear l7
  generalize ((((((W.setCell ⟨w.heap.size + 1 + 1 + 1, 0, none⟩ (.string (⟨#[]⟩ : ByteArray))).setCell ⟨w.heap.size + 1 + 1 + 1, 1, none⟩ (.string (⟨#[]⟩ : ByteArray))).setCell ⟨w.heap.size + 1 + 1 + 1, 2, none⟩ (.slice none 0 0)).setCell ⟨w.heap.size + 1 + 1 + 1, 3, none⟩ (.int .i64 0)).setCell ⟨w.heap.size + 1 + 1 + 1, 4, none⟩ (.slice none 0 0)).setCell ⟨w.heap.size + 1 + 1 + 1 + 1, 0, none⟩ (.int .i64 191)) = wE at *
  refine ⟨by simp, .inl ⟨_, _, rfl, run_takeDeferred EK.out, ?_⟩⟩
  have P8 : (wE.putObj D (.deferred none)).heap[w.heap.size + 1 + 1 + 1]? = some (.cells (#[(.string (⟨#[]⟩ : ByteArray)), (.string (⟨#[]⟩ : ByteArray)), (.slice none 0 0), (.int .i64 0), (.slice none 0 0)] : Array Value) 27 (0, 0)) := (World.putObj_heap_other (by have h_ := HS.out; omega)).trans E8.out
  have P9 : (wE.putObj D (.deferred none)).heap[w.heap.size + 1 + 1 + 1 + 1]? = some (.cells (#[(.int .i64 191)] : Array Value) 29 (0, 0)) := (World.putObj_heap_other (by have h_ := HS.out; omega)).trans E9.out
  exact ⟨_, results_cs rfl _ _ (w.heap.size + 1 + 1 + 1) (w.heap.size + 1 + 1 + 1 + 1) 27 (#[(.string (⟨#[]⟩ : ByteArray)), (.string (⟨#[]⟩ : ByteArray)), (.slice none 0 0), (.int .i64 0), (.slice none 0 0)] : Array Value) (0, 0) _ (.int .i64 191) rfl P8 Try.underlying27 rfl (by kernel_rfl) rfl (load29 _ _ _ (bc P9)), .inr ⟨by decide, rfl⟩, EB.out.trans (belowK_b (w := w) (Nat.le_refl _) wE D _ _ (by have := HS.out; omega) EK.out rfl rfl)⟩
 case stop =>
  rintro D c g3 W hD ⟨kk, t5, j0⟩ ⟨c6, x, p, e1, e2, e3, e4, rfl, e6, e7⟩ hK
  have hl := l8.out
  rw [← List.take_append_drop kk (List.finRange ys.length)] at hl
  have o2 : (List.finRange ys.length).take kk = c6 ++ [x] := j0.symm.trans e1
  rw [o2, List.append_assoc, heldL_skip ts is' ys token i7 c6 _ e2, List.singleton_append, heldL_here _ _ _ _ _ _ _ e3, e4, Option.bind_some] at hl
  have EB := am e6
  have EK := am hK
  clear hK j0 o2 e1 e2 e3 e4 e6
  rcases e7 with ⟨h1, h2, h3⟩ | ⟨h1, q, Aq, cq, h2, h3, h4, h5⟩
  ·
   rw [if_pos h1] at hl
   obtain rfl := Option.some.inj hl
   have E8 := am h2
   have E9 := am h3
   have H1 := am h1
   clear h1 h2 h3 hl
   generalize W = wE at *
   gi_wp2
   refine ⟨by simp, .inl ⟨_, _, rfl, run_takeDeferred EK.out, ?_⟩⟩
   have P8 : (wE.putObj D (.deferred none)).heap[w.heap.size + 1 + 1 + 1]? = some (.cells (#[(.string (⟨#[]⟩ : ByteArray)), (.string (⟨#[]⟩ : ByteArray)), (.slice none 0 0), (.int .i64 0), (.slice none 0 0)] : Array Value) 27 (0, 0)) := (World.putObj_heap_other (by have h_ := HS.out; omega)).trans E8.out
   have P9 : (wE.putObj D (.deferred none)).heap[w.heap.size + 1 + 1 + 1 + 1]? = some (.cells (#[(.int .i64 p.2)] : Array Value) 29 (0, 0)) := (World.putObj_heap_other (by have h_ := HS.out; omega)).trans E9.out
   exact ⟨_, results_cs rfl _ _ (w.heap.size + 1 + 1 + 1) (w.heap.size + 1 + 1 + 1 + 1) 27 (#[(.string (⟨#[]⟩ : ByteArray)), (.string (⟨#[]⟩ : ByteArray)), (.slice none 0 0), (.int .i64 0), (.slice none 0 0)] : Array Value) (0, 0) _ (.int .i64 p.2) rfl P8 Try.underlying27 rfl (by kernel_rfl) rfl (load29 _ _ _ (bc P9)), .inr ⟨H1.out, rfl⟩, EB.out.trans (belowK_b (w := w) (Nat.le_refl _) wE D _ _ (by have := HS.out; omega) EK.out rfl rfl)⟩
  rw [if_neg (by simpa using h1), h2, Option.bind_some] at hl
  obtain rfl := Option.some.inj hl
  have E8 := am h3
  have E9 := am h4
  have E5 := am h5
  clear h1 h2 h3 h4 h5 hl
  generalize W = wE at *
  gi_wp2
  refine ⟨by simp, .inl ⟨_, _, rfl, run_takeDeferred EK.out, ?_⟩⟩
  have P8 : (wE.putObj D (.deferred none)).heap[w.heap.size + 1 + 1 + 1]? = some (.cells (#[(.string ky), (.string nm), (.slice A1 ts.length c1), (.int .i64 q.1), (.slice Aq q.2.length cq)] : Array Value) 27 (0, 0)) := (World.putObj_heap_other (by have h_ := HS.out; omega)).trans E8.out
  have P9 : (wE.putObj D (.deferred none)).heap[w.heap.size + 1 + 1 + 1 + 1]? = some (.cells (#[(.int .i64 0)] : Array Value) 29 (0, 0)) := (World.putObj_heap_other (by have h_ := HS.out; omega)).trans E9.out
  exact ⟨_, results_cs rfl _ _ (w.heap.size + 1 + 1 + 1) (w.heap.size + 1 + 1 + 1 + 1) 27 (#[(.string ky), (.string nm), (.slice A1 ts.length c1), (.int .i64 q.1), (.slice Aq q.2.length cq)] : Array Value) (0, 0) _ (.int .i64 0) rfl P8 Try.underlying27 rfl (by kernel_rfl) rfl (load29 _ _ _ (bc P9)), .inl ⟨rfl, _, rfl, RowOf.own (own_R E5.out (grownBy_putObj' wE D _) (fun r_ e_ => by cases e_; exact ⟨_, EK.out, rfl⟩))⟩, EB.out.trans (belowK_b (w := w) (Nat.le_refl _) wE D _ _ (by have := HS.out; omega) EK.out rfl rfl)⟩
end Go.Proofs.Ytabmkighhmchmaa
namespace Go.Proofs.Ytabmkighhmchmaa
open Go.RowKit Go.Shelf Go.Proofs.YtabmkighhmchmaaW.PrintWords Go.Proofs.YtabmkighhmchmaaW.PrintLast Go.Proofs.YtabmkighhmchmaaW.PrintMore Go.Proofs.YtabmkighhmchmaaW.Sq
open X (S49 S51 k49 k51 rd_T49 rd_T51 at_T49 at_T51 z51)
set_option linter.unusedVariables false
set_option linter.unusedSimpArgs false
set_option maxHeartbeats 2000000 in
set_option maxRecDepth 100000 in
theorem beatc_calls (k : Nat) (now : Int) (g : Nat) (t : S49) (s : S51) (p : S51 × Int) (A0 : Option Addr) (c0 : Nat) (h : beatA k now t s = some p) (hl : t.f0.length ≤ c0) (w : World) (hA : Kd.C (Kd.int .i64) w A0 t.f0.length t.f0) (hg : w.heap[g]? = some (.cells #[.int .i64 now] 3 (0, 0))) :
  Calls Try.prog 51 (#[.agg #[(.slice A0 t.f0.length c0), (.int .i64 t.f1), (.int .i64 t.f2), (.int .i64 t.f3)], .agg #[(.int .i64 s.f0), (.int .i64 s.f1), (.int .i64 s.f2), (.int .i64 s.f3), (.string s.f4)]] ++ #[.pointer (some ⟨g, 0, none⟩)]) w fun e w' => e = .returned (.tuple #[.agg #[(.int .i64 p.1.f0), (.int .i64 p.1.f1), (.int .i64 p.1.f2), (.int .i64 p.1.f3), (.string p.1.f4)], .int .i64 p.2]) ∧ Below w.heap.size w w' := by
 show Calls Try.prog 51 #[.agg #[(.slice A0 t.f0.length c0), (.int .i64 t.f1), (.int .i64 t.f2), (.int .i64 t.f3)], .agg #[(.int .i64 s.f0), (.int .i64 s.f1), (.int .i64 s.f2), (.int .i64 s.f3), (.string s.f4)], .pointer (some ⟨g, 0, none⟩)] w _
 have d6 := Try.underlying49
 have d7 := Try.underlying51
 have HA := am hA
 have HL := am hl
 have HP := am (beatA_f h)
 have HB := am (Below.refl w.heap.size w)
 have BG := am hg
 clear hA hl h hg
 go_enter Try.func51, Try.ntmps51
 go_wp2_with (first | ((with_reducible refine gD 3 ?_); refine bz 3 (#[(.slice A0 t.f0.length c0), (.int .i64 t.f1), (.int .i64 t.f2), (.int .i64 t.f3)] : Array Value) 49 HB ?_; clear HB; intro g3 hg d8 hb B3 c8 HB; have a7 := nP hg BG; have b8 := am a7.out.symm; replace BG := kP BG hb; clear hb hg) | ((with_reducible refine gD 4 ?_); refine bz 4 (#[(.int .i64 s.f0), (.int .i64 s.f1), (.int .i64 s.f2), (.int .i64 s.f3), (.string s.f4)] : Array Value) 51 HB ?_; clear HB; intro g4 hg d9 hb B4 c9 HB; have a8 := nP hg BG; have b9 := am a8.out.symm; have a4 := nP hg B3; have b5 := am a4.out.symm; replace BG := kP BG hb; replace B3 := kP B3 hb; clear hb hg) | ((with_reducible refine gD 5 ?_); refine bz 5 (#[(.int .i64 0), (.int .i64 0), (.int .i64 0), (.int .i64 0), (.string (⟨#[]⟩ : ByteArray))] : Array Value) 51 HB ?_; clear HB; intro g5 hg c7 hb B5 d5 HB; have a9 := nP hg BG; have c6 := am a9.out.symm; have a5 := nP hg B3; have b6 := am a5.out.symm; have a6 := nP hg B4; have b7 := am a6.out.symm; replace BG := kP BG hb; replace B3 := kP B3 hb; replace B4 := kP B4 hb; clear hb hg; obtain ⟨a0, a1, a2, a3⟩ := ce4 B3.out; obtain ⟨b0, b1, b2, b3, b4⟩ := ce5 B4.out; have k0 : c7.cell? ⟨g, 0, none⟩ = some (.int .i64 now) := bc BG.out) | (go_at_call 52; refine (X.F0.calls k A0 c0 t.f0 t.f1 t.f2 t.f3 s.f0 s.f1 s.f2 s.f3 s.f4 now _ _ _ _ _ _ _ (Kd.C_below HA.out HB.out) HL.out HP.out).mono ?_; rintro e w3 ⟨rfl, hb⟩; replace B5 := kP B5 hb; replace HB := bS HB hb; clear k0 BG B3 B4 a0 a1 a2 a3 b0 b1 b2 b3 b4 hb; obtain ⟨d0, d1, d2, d3, d4⟩ := ce5 B5.out; obtain ⟨e0, e1, e2, e3, e4⟩ := z5 B5.out))
 refine bodyPost_ret (results_ct rfl _ _ g5 51 (#[(.int .i64 p.1.f0), (.int .i64 p.1.f1), (.int .i64 p.1.f2), (.int .i64 p.1.f3), (.string p.1.f4)] : Array Value) (0, 0) _ rfl (pP B5.out) Try.underlying51 rfl (by kernel_rfl)) rfl ?_
 exact ⟨rfl, pB HB.out⟩
set_option maxHeartbeats 2000000 in
set_option maxRecDepth 100000 in
theorem failc_calls (k : Nat) (now : Int) (g : Nat) (t : S49) (s : S51) (p : S51 × Int) (A0 : Option Addr) (c0 : Nat) (h : failA k now t s = some p) (hl : t.f0.length ≤ c0) (w : World) (hA : Kd.C (Kd.int .i64) w A0 t.f0.length t.f0) (hg : w.heap[g]? = some (.cells #[.int .i64 now] 3 (0, 0))) :
  Calls Try.prog 55 (#[.agg #[(.slice A0 t.f0.length c0), (.int .i64 t.f1), (.int .i64 t.f2), (.int .i64 t.f3)], .agg #[(.int .i64 s.f0), (.int .i64 s.f1), (.int .i64 s.f2), (.int .i64 s.f3), (.string s.f4)]] ++ #[.pointer (some ⟨g, 0, none⟩)]) w fun e w' => e = .returned (.tuple #[.agg #[(.int .i64 p.1.f0), (.int .i64 p.1.f1), (.int .i64 p.1.f2), (.int .i64 p.1.f3), (.string p.1.f4)], .int .i64 p.2]) ∧ Below w.heap.size w w' := by
 show Calls Try.prog 55 #[.agg #[(.slice A0 t.f0.length c0), (.int .i64 t.f1), (.int .i64 t.f2), (.int .i64 t.f3)], .agg #[(.int .i64 s.f0), (.int .i64 s.f1), (.int .i64 s.f2), (.int .i64 s.f3), (.string s.f4)], .pointer (some ⟨g, 0, none⟩)] w _
 have d6 := Try.underlying49
 have d7 := Try.underlying51
 have HA := am hA
 have HL := am hl
 have HP := am (failA_f h)
 have HB := am (Below.refl w.heap.size w)
 have BG := am hg
 clear hA hl h hg
 go_enter Try.func55, Try.ntmps55
 go_wp2_with (first | ((with_reducible refine gD 3 ?_); refine bz 3 (#[(.slice A0 t.f0.length c0), (.int .i64 t.f1), (.int .i64 t.f2), (.int .i64 t.f3)] : Array Value) 49 HB ?_; clear HB; intro g3 hg d8 hb B3 c8 HB; have a7 := nP hg BG; have b8 := am a7.out.symm; replace BG := kP BG hb; clear hb hg) | ((with_reducible refine gD 4 ?_); refine bz 4 (#[(.int .i64 s.f0), (.int .i64 s.f1), (.int .i64 s.f2), (.int .i64 s.f3), (.string s.f4)] : Array Value) 51 HB ?_; clear HB; intro g4 hg d9 hb B4 c9 HB; have a8 := nP hg BG; have b9 := am a8.out.symm; have a4 := nP hg B3; have b5 := am a4.out.symm; replace BG := kP BG hb; replace B3 := kP B3 hb; clear hb hg) | ((with_reducible refine gD 5 ?_); refine bz 5 (#[(.int .i64 0), (.int .i64 0), (.int .i64 0), (.int .i64 0), (.string (⟨#[]⟩ : ByteArray))] : Array Value) 51 HB ?_; clear HB; intro g5 hg c7 hb B5 d5 HB; have a9 := nP hg BG; have c6 := am a9.out.symm; have a5 := nP hg B3; have b6 := am a5.out.symm; have a6 := nP hg B4; have b7 := am a6.out.symm; replace BG := kP BG hb; replace B3 := kP B3 hb; replace B4 := kP B4 hb; clear hb hg; obtain ⟨a0, a1, a2, a3⟩ := ce4 B3.out; obtain ⟨b0, b1, b2, b3, b4⟩ := ce5 B4.out; have k0 : c7.cell? ⟨g, 0, none⟩ = some (.int .i64 now) := bc BG.out) | (go_at_call 56; refine (X.Fx.calls k A0 c0 t.f0 t.f1 t.f2 t.f3 s.f0 s.f1 s.f2 s.f3 s.f4 now _ _ _ _ _ _ _ (Kd.C_below HA.out HB.out) HL.out HP.out).mono ?_; rintro e w3 ⟨rfl, hb⟩; replace B5 := kP B5 hb; replace HB := bS HB hb; clear k0 BG B3 B4 a0 a1 a2 a3 b0 b1 b2 b3 b4 hb; obtain ⟨d0, d1, d2, d3, d4⟩ := ce5 B5.out; obtain ⟨e0, e1, e2, e3, e4⟩ := z5 B5.out))
 refine bodyPost_ret (results_ct rfl _ _ g5 51 (#[(.int .i64 p.1.f0), (.int .i64 p.1.f1), (.int .i64 p.1.f2), (.int .i64 p.1.f3), (.string p.1.f4)] : Array Value) (0, 0) _ rfl (pP B5.out) Try.underlying51 rfl (by kernel_rfl)) rfl ?_
 exact ⟨rfl, pB HB.out⟩
set_option maxHeartbeats 2000000 in
set_option maxRecDepth 100000 in
theorem donec_calls (b8 : ByteArray) (g : Nat) (t : S49) (s : S51) (p : S51 × Int) (A0 : Option Addr) (c0 : Nat) (h : doneA b8 t s = some p) (hl : t.f0.length ≤ c0) (w : World) (hA : Kd.C (Kd.int .i64) w A0 t.f0.length t.f0) (hg : w.heap[g]? = some (.cells #[.string b8] 9 (0, 0))) :
  Calls Try.prog 53 (#[.agg #[(.slice A0 t.f0.length c0), (.int .i64 t.f1), (.int .i64 t.f2), (.int .i64 t.f3)], .agg #[(.int .i64 s.f0), (.int .i64 s.f1), (.int .i64 s.f2), (.int .i64 s.f3), (.string s.f4)]] ++ #[.pointer (some ⟨g, 0, none⟩)]) w fun e w' => e = .returned (.tuple #[.agg #[(.int .i64 p.1.f0), (.int .i64 p.1.f1), (.int .i64 p.1.f2), (.int .i64 p.1.f3), (.string p.1.f4)], .int .i64 p.2]) ∧ Below w.heap.size w w' := by
 show Calls Try.prog 53 #[.agg #[(.slice A0 t.f0.length c0), (.int .i64 t.f1), (.int .i64 t.f2), (.int .i64 t.f3)], .agg #[(.int .i64 s.f0), (.int .i64 s.f1), (.int .i64 s.f2), (.int .i64 s.f3), (.string s.f4)], .pointer (some ⟨g, 0, none⟩)] w _
 have d7 := Try.underlying49
 have d8 := Try.underlying51
 have HA := am hA
 have HL := am hl
 have HP := am (doneA_f h)
 have HB := am (Below.refl w.heap.size w)
 have BG := am hg
 clear hA hl h hg
 go_enter Try.func53, Try.ntmps53
 go_wp2_with (first | ((with_reducible refine gD 3 ?_); refine bz 3 (#[(.slice A0 t.f0.length c0), (.int .i64 t.f1), (.int .i64 t.f2), (.int .i64 t.f3)] : Array Value) 49 HB ?_; clear HB; intro g3 hg d9 hb B3 c9 HB; have a7 := nP hg BG; have b9 := am a7.out.symm; replace BG := kP BG hb; clear hb hg) | ((with_reducible refine gD 4 ?_); refine bz 4 (#[(.int .i64 s.f0), (.int .i64 s.f1), (.int .i64 s.f2), (.int .i64 s.f3), (.string s.f4)] : Array Value) 51 HB ?_; clear HB; intro g4 hg e0 hb B4 d5 HB; have a8 := nP hg BG; have c6 := am a8.out.symm; have a4 := nP hg B3; have b5 := am a4.out.symm; replace BG := kP BG hb; replace B3 := kP B3 hb; clear hb hg) | ((with_reducible refine gD 5 ?_); refine bz 5 (#[(.int .i64 0), (.int .i64 0), (.int .i64 0), (.int .i64 0), (.string (⟨#[]⟩ : ByteArray))] : Array Value) 51 HB ?_; clear HB; intro g5 hg c8 hb B5 d6 HB; have a9 := nP hg BG; have c7 := am a9.out.symm; have a5 := nP hg B3; have b6 := am a5.out.symm; have a6 := nP hg B4; have b7 := am a6.out.symm; replace BG := kP BG hb; replace B3 := kP B3 hb; replace B4 := kP B4 hb; clear hb hg; obtain ⟨a0, a1, a2, a3⟩ := ce4 B3.out; obtain ⟨b0, b1, b2, b3, b4⟩ := ce5 B4.out; have k0 : c8.cell? ⟨g, 0, none⟩ = some (.string b8) := bc BG.out) | (go_at_call 54; refine (X.F1.calls A0 c0 t.f0 t.f1 t.f2 t.f3 s.f0 s.f1 s.f2 s.f3 s.f4 b8 _ _ _ _ _ _ _ (Kd.C_below HA.out HB.out) HL.out HP.out).mono ?_; rintro e w3 ⟨rfl, hb⟩; replace B5 := kP B5 hb; replace HB := bS HB hb; clear k0 BG B3 B4 a0 a1 a2 a3 b0 b1 b2 b3 b4 hb; obtain ⟨d0, d1, d2, d3, d4⟩ := ce5 B5.out; obtain ⟨e1, e2, e3, e4, e5⟩ := z5 B5.out))
 refine bodyPost_ret (results_ct rfl _ _ g5 51 (#[(.int .i64 p.1.f0), (.int .i64 p.1.f1), (.int .i64 p.1.f2), (.int .i64 p.1.f3), (.string p.1.f4)] : Array Value) (0, 0) _ rfl (pP B5.out) Try.underlying51 rfl (by kernel_rfl)) rfl ?_
 exact ⟨rfl, pB HB.out⟩
set_option maxHeartbeats 2000000 in
set_option maxRecDepth 100000 in
theorem fail_calls (k : Nat) (ky nm : ByteArray) (A1 : Option Addr) (c1 : Nat) (ts : List S49) (is : Int) (A2 : Option Addr) (c2 : Nat) (xs : List S51) (now token : Int) (r : Int × Int × List S51) (w : World) (hT : Kd.C k49 w A1 ts.length ts) (ht : ts.length ≤ c1) (hC : Kd.C k51 w A2 xs.length xs) (h : heldO k ky nm ts is xs now token (failA k now) = some r) :
  Calls Try.prog 21 #[.agg #[(.string ky), (.string nm), (.slice A1 ts.length c1), (.int .i64 is), (.slice A2 xs.length c2)], .int .i64 now, .int .i64 token] w fun e w' => runPost ky nm A1 c1 ts A2 c2 xs w r e w' := by
 have d5 := Try.underlying27
 have HC := am hC
 have HT := am hT
 have b8 := am ht
 have HH := am h
 have HB := am (Below.refl w.heap.size w)
 clear hT hC h ht
 by_cases h0 : r.1 = 0
 ·
  have H0 := am h0
  clear h0
  go_enter Try.func21, Try.ntmps21
  go_wp2_with (first | ((with_reducible refine gD 3 ?_); refine bz 3 (#[(.string ky), (.string nm), (.slice A1 ts.length c1), (.int .i64 is), (.slice A2 xs.length c2)] : Array Value) 27 HB ?_; clear HB; intro g1 hg b6 hb B1 a8 HB; clear hb hg) | ((with_reducible refine gD 4 ?_); refine bz 4 (#[(.int .i64 now)] : Array Value) 3 HB ?_; clear HB; intro g2 hg b7 hb B2 a9 HB; have a0 := nP hg B1; have a4 := am a0.out.symm; replace B1 := kP B1 hb; clear hb hg) | ((with_reducible refine gD 6 ?_); refine bz 6 (#[(.string (⟨#[]⟩ : ByteArray)), (.string (⟨#[]⟩ : ByteArray)), (.slice none 0 0), (.int .i64 0), (.slice none 0 0)] : Array Value) 27 HB ?_; clear HB; intro g3 hg a7 hb B3 b5 HB; have a1 := nP hg B1; have a5 := am a1.out.symm; have a2 := nP hg B2; have a6 := am a2.out.symm; replace B1 := kP B1 hb; replace B2 := kP B2 hb; clear hb hg; obtain ⟨b0, b1, b2, b3, b4⟩ := ce5 B1.out; have k0 : a7.cell? ⟨g2, 0, none⟩ = some (.int .i64 now) := bc B2.out) | (go_at_call 50; refine (held_calls 55 _ Try.func55 (by kernel_rfl) rfl #[.pointer (some ⟨g2, 0, none⟩)] (failA k now) k ky nm A1 c1 ts is A2 c2 xs now token r _ (Kd.C_below HT.out HB.out) b8.out (Kd.C_below HC.out HB.out) (fun t s p A0 c0 ha hl W hW hA => failc_calls k now g2 t s p A0 c0 ha hl W hA (blk_below B2.out hW)) HH.out).mono ?_; rintro e w3 a3; obtain ⟨⟨v3, rfl, ho⟩, hb⟩ := runPost_ok H0.out a3; obtain ⟨A3, c3, e3⟩ := RowOf.slice ho; subst e3; have H3 := am (RowOf.base ho (below_size HB.out)); clear a3; replace B3 := kP B3 hb; replace HB := bS HB hb; clear B1 B2 k0 b0 b1 b2 b3 b4 hb; obtain ⟨d0, d1, d2, d3, d4⟩ := ce5 B3.out; obtain ⟨b9, c6, c7, c8, c9⟩ := z5 B3.out; clear ho))
  refine bodyPost_ret (results_ct rfl _ _ g3 27 (#[(.string ky), (.string nm), (.slice A1 ts.length c1), (.int .i64 r.2.1), (.slice A3 r.2.2.length c3)] : Array Value) (0, 0) _ rfl (pP B3.out) Try.underlying27 rfl (by kernel_rfl)) rfl ?_
  exact ⟨.inl ⟨H0.out, _, rfl, (RowOf.set (RowOf.set (RowOf.set (RowOf.set (RowOf.set H3.out (pP (cs' := #[(.string (⟨#[]⟩ : ByteArray)), (.string (⟨#[]⟩ : ByteArray)), (.slice none 0 0), (.int .i64 0), (.slice none 0 0)]) B3.out) (by decide) _ _) (pP (cs' := #[(.string ky), (.string (⟨#[]⟩ : ByteArray)), (.slice none 0 0), (.int .i64 0), (.slice none 0 0)]) B3.out) (by decide) _ _) (pP (cs' := #[(.string ky), (.string nm), (.slice none 0 0), (.int .i64 0), (.slice none 0 0)]) B3.out) (by decide) _ _) (pP (cs' := #[(.string ky), (.string nm), (.slice A1 ts.length c1), (.int .i64 0), (.slice none 0 0)]) B3.out) (by decide) _ _) (pP (cs' := #[(.string ky), (.string nm), (.slice A1 ts.length c1), (.int .i64 r.2.1), (.slice none 0 0)]) B3.out) (by decide) _ _)⟩, pB HB.out⟩
 have H0 := am h0
 clear h0
 go_enter Try.func21, Try.ntmps21
 go_wp2_with (first | ((with_reducible refine gD 3 ?_); refine bz 3 (#[(.string ky), (.string nm), (.slice A1 ts.length c1), (.int .i64 is), (.slice A2 xs.length c2)] : Array Value) 27 HB ?_; clear HB; intro g1 hg b6 hb B1 a8 HB; clear hb hg) | ((with_reducible refine gD 4 ?_); refine bz 4 (#[(.int .i64 now)] : Array Value) 3 HB ?_; clear HB; intro g2 hg b7 hb B2 a9 HB; have a0 := nP hg B1; have a4 := am a0.out.symm; replace B1 := kP B1 hb; clear hb hg) | ((with_reducible refine gD 6 ?_); refine bz 6 (#[(.string (⟨#[]⟩ : ByteArray)), (.string (⟨#[]⟩ : ByteArray)), (.slice none 0 0), (.int .i64 0), (.slice none 0 0)] : Array Value) 27 HB ?_; clear HB; intro g3 hg a7 hb B3 b5 HB; have a1 := nP hg B1; have a5 := am a1.out.symm; have a2 := nP hg B2; have a6 := am a2.out.symm; replace B1 := kP B1 hb; replace B2 := kP B2 hb; clear hb hg; obtain ⟨b0, b1, b2, b3, b4⟩ := ce5 B1.out; have k0 : a7.cell? ⟨g2, 0, none⟩ = some (.int .i64 now) := bc B2.out) | (go_at_call 50; refine (held_calls 55 _ Try.func55 (by kernel_rfl) rfl #[.pointer (some ⟨g2, 0, none⟩)] (failA k now) k ky nm A1 c1 ts is A2 c2 xs now token r _ (Kd.C_below HT.out HB.out) b8.out (Kd.C_below HC.out HB.out) (fun t s p A0 c0 ha hl W hW hA => failc_calls k now g2 t s p A0 c0 ha hl W hA (blk_below B2.out hW)) HH.out).mono ?_; rintro e w3 a3; obtain ⟨rfl, hb⟩ := runPost_bad H0.out a3; clear a3; replace B3 := kP B3 hb; replace HB := bS HB hb; clear B1 B2 k0 b0 b1 b2 b3 b4 hb; obtain ⟨d0, d1, d2, d3, d4⟩ := ce5 B3.out; obtain ⟨b9, c6, c7, c8, c9⟩ := z5 B3.out))
 refine bodyPost_ret (results_ct rfl _ _ g3 27 (#[(.string (⟨#[]⟩ : ByteArray)), (.string (⟨#[]⟩ : ByteArray)), (.slice none 0 0), (.int .i64 0), (.slice none 0 0)] : Array Value) (0, 0) _ rfl (pP B3.out) Try.underlying27 rfl (by kernel_rfl)) rfl ?_
 exact ⟨.inr ⟨H0.out, rfl⟩, pB HB.out⟩
set_option maxHeartbeats 2000000 in
set_option maxRecDepth 100000 in
theorem done_calls (k : Nat) (ky nm : ByteArray) (A1 : Option Addr) (c1 : Nat) (ts : List S49) (is : Int) (A2 : Option Addr) (c2 : Nat) (xs : List S51) (now token : Int) (a7 : ByteArray) (r : Int × Int × List S51) (w : World) (hT : Kd.C k49 w A1 ts.length ts) (ht : ts.length ≤ c1) (hC : Kd.C k51 w A2 xs.length xs) (h : heldO k ky nm ts is xs now token (doneA a7) = some r) :
  Calls Try.prog 20 #[.agg #[(.string ky), (.string nm), (.slice A1 ts.length c1), (.int .i64 is), (.slice A2 xs.length c2)], .int .i64 now, .int .i64 token, .string a7] w fun e w' => runPost ky nm A1 c1 ts A2 c2 xs w r e w' := by
 have d6 := Try.underlying27
 have HC := am hC
 have HT := am hT
 have b9 := am ht
 have HH := am h
 have HB := am (Below.refl w.heap.size w)
 clear hT hC h ht
 by_cases h0 : r.1 = 0
 ·
  have H0 := am h0
  clear h0
  go_enter Try.func20, Try.ntmps20
  go_wp2_with (first | ((with_reducible refine gD 4 ?_); refine bz 4 (#[(.string ky), (.string nm), (.slice A1 ts.length c1), (.int .i64 is), (.slice A2 xs.length c2)] : Array Value) 27 HB ?_; clear HB; intro g1 hg b6 hb B1 a8 HB; clear hb hg) | ((with_reducible refine gD 7 ?_); refine bz 7 (#[(.string a7)] : Array Value) 9 HB ?_; clear HB; intro g2 hg b7 hb B2 a9 HB; have a0 := nP hg B1; have a4 := am a0.out.symm; replace B1 := kP B1 hb; clear hb hg) | ((with_reducible refine gD 8 ?_); refine bz 8 (#[(.string (⟨#[]⟩ : ByteArray)), (.string (⟨#[]⟩ : ByteArray)), (.slice none 0 0), (.int .i64 0), (.slice none 0 0)] : Array Value) 27 HB ?_; clear HB; intro g3 hg b8 hb B3 b5 HB; have a1 := nP hg B1; have a5 := am a1.out.symm; have a2 := nP hg B2; have a6 := am a2.out.symm; replace B1 := kP B1 hb; replace B2 := kP B2 hb; clear hb hg; obtain ⟨b0, b1, b2, b3, b4⟩ := ce5 B1.out) | (go_at_call 50; refine (held_calls 53 _ Try.func53 (by kernel_rfl) rfl #[.pointer (some ⟨g2, 0, none⟩)] (doneA a7) k ky nm A1 c1 ts is A2 c2 xs now token r _ (Kd.C_below HT.out HB.out) b9.out (Kd.C_below HC.out HB.out) (fun t s p A0 c0 ha hl W hW hA => donec_calls  a7 g2 t s p A0 c0 ha hl W hA (blk_below B2.out hW)) HH.out).mono ?_; rintro e w3 a3; obtain ⟨⟨v3, rfl, ho⟩, hb⟩ := runPost_ok H0.out a3; obtain ⟨A3, c3, e3⟩ := RowOf.slice ho; subst e3; have H3 := am (RowOf.base ho (below_size HB.out)); clear a3; replace B3 := kP B3 hb; replace HB := bS HB hb; clear B1 B2 b0 b1 b2 b3 b4 hb; obtain ⟨d0, d1, d2, d3, d4⟩ := ce5 B3.out; obtain ⟨c6, c7, c8, c9, d5⟩ := z5 B3.out; clear ho))
  refine bodyPost_ret (results_ct rfl _ _ g3 27 (#[(.string ky), (.string nm), (.slice A1 ts.length c1), (.int .i64 r.2.1), (.slice A3 r.2.2.length c3)] : Array Value) (0, 0) _ rfl (pP B3.out) Try.underlying27 rfl (by kernel_rfl)) rfl ?_
  exact ⟨.inl ⟨H0.out, _, rfl, (RowOf.set (RowOf.set (RowOf.set (RowOf.set (RowOf.set H3.out (pP (cs' := #[(.string (⟨#[]⟩ : ByteArray)), (.string (⟨#[]⟩ : ByteArray)), (.slice none 0 0), (.int .i64 0), (.slice none 0 0)]) B3.out) (by decide) _ _) (pP (cs' := #[(.string ky), (.string (⟨#[]⟩ : ByteArray)), (.slice none 0 0), (.int .i64 0), (.slice none 0 0)]) B3.out) (by decide) _ _) (pP (cs' := #[(.string ky), (.string nm), (.slice none 0 0), (.int .i64 0), (.slice none 0 0)]) B3.out) (by decide) _ _) (pP (cs' := #[(.string ky), (.string nm), (.slice A1 ts.length c1), (.int .i64 0), (.slice none 0 0)]) B3.out) (by decide) _ _) (pP (cs' := #[(.string ky), (.string nm), (.slice A1 ts.length c1), (.int .i64 r.2.1), (.slice none 0 0)]) B3.out) (by decide) _ _)⟩, pB HB.out⟩
 have H0 := am h0
 clear h0
 go_enter Try.func20, Try.ntmps20
 go_wp2_with (first | ((with_reducible refine gD 4 ?_); refine bz 4 (#[(.string ky), (.string nm), (.slice A1 ts.length c1), (.int .i64 is), (.slice A2 xs.length c2)] : Array Value) 27 HB ?_; clear HB; intro g1 hg b6 hb B1 a8 HB; clear hb hg) | ((with_reducible refine gD 7 ?_); refine bz 7 (#[(.string a7)] : Array Value) 9 HB ?_; clear HB; intro g2 hg b7 hb B2 a9 HB; have a0 := nP hg B1; have a4 := am a0.out.symm; replace B1 := kP B1 hb; clear hb hg) | ((with_reducible refine gD 8 ?_); refine bz 8 (#[(.string (⟨#[]⟩ : ByteArray)), (.string (⟨#[]⟩ : ByteArray)), (.slice none 0 0), (.int .i64 0), (.slice none 0 0)] : Array Value) 27 HB ?_; clear HB; intro g3 hg b8 hb B3 b5 HB; have a1 := nP hg B1; have a5 := am a1.out.symm; have a2 := nP hg B2; have a6 := am a2.out.symm; replace B1 := kP B1 hb; replace B2 := kP B2 hb; clear hb hg; obtain ⟨b0, b1, b2, b3, b4⟩ := ce5 B1.out) | (go_at_call 50; refine (held_calls 53 _ Try.func53 (by kernel_rfl) rfl #[.pointer (some ⟨g2, 0, none⟩)] (doneA a7) k ky nm A1 c1 ts is A2 c2 xs now token r _ (Kd.C_below HT.out HB.out) b9.out (Kd.C_below HC.out HB.out) (fun t s p A0 c0 ha hl W hW hA => donec_calls  a7 g2 t s p A0 c0 ha hl W hA (blk_below B2.out hW)) HH.out).mono ?_; rintro e w3 a3; obtain ⟨rfl, hb⟩ := runPost_bad H0.out a3; clear a3; replace B3 := kP B3 hb; replace HB := bS HB hb; clear B1 B2 b0 b1 b2 b3 b4 hb; obtain ⟨d0, d1, d2, d3, d4⟩ := ce5 B3.out; obtain ⟨c6, c7, c8, c9, d5⟩ := z5 B3.out))
 refine bodyPost_ret (results_ct rfl _ _ g3 27 (#[(.string (⟨#[]⟩ : ByteArray)), (.string (⟨#[]⟩ : ByteArray)), (.slice none 0 0), (.int .i64 0), (.slice none 0 0)] : Array Value) (0, 0) _ rfl (pP B3.out) Try.underlying27 rfl (by kernel_rfl)) rfl ?_
 exact ⟨.inr ⟨H0.out, rfl⟩, pB HB.out⟩
namespace X
theorem Gd.calls (k : Nat) (b0 b1 : ByteArray) (a0 : Nat → Prop) (a8 : Option Addr) (b3 : Nat) (a4 : List S49) (b2 : Int) (a3 : Nat → Prop) (a9 : Option Addr) (b4 : Nat) (a5 : List S51) (a1 a2 : Int) (r1 r2 : ByteArray) (r3 : List S49) (r4 : Int) (r5 : List S51) (r6 : Int) (w : World) (a6 : Kd.V k49 49 w w.heap.size (fun k_ => a0 k_) (.slice a8 a4.length b3) a4) (a7 : Kd.V k51 51 w w.heap.size (fun k_ => a3 k_) (.slice a9 a5.length b4) a5) (h : Gd.f k b0 b1 a4 b2 a5 a1 a2 = some (r1, r2, r3, r4, r5, r6)) :
  Calls Try.prog 21 #[.agg #[.string b0, .string b1, .slice a8 a4.length b3, .int .i64 b2, .slice a9 a5.length b4], .int .i64 a1, .int .i64 a2] w fun e w' => ∃ b5 b6 : Value, e = .returned (.tuple #[.agg #[.string r1, .string r2, b5, .int .i64 r4, b6], .int .i64 r6]) ∧ Kd.V k49 49 w' w.heap.size (fun k_ => ((a0 k_ ∨ a3 k_) ∨ w.heap.size ≤ k_)) b5 r3 ∧ Kd.V k51 51 w' w.heap.size (fun k_ => ((a0 k_ ∨ a3 k_) ∨ w.heap.size ≤ k_)) b6 r5 ∧ Below w.heap.size w w' := by
 obtain ⟨o, ho, h⟩ := Option.bind_eq_some_iff.1 h
 obtain ⟨_, b8, b7⟩ := Kd.V_reads' a6
 refine (fail_calls k b0 b1 a8 b3 a4 b2 a9 b4 a5 a1 a2 o w b7 b8 (Kd.V_reads' a7).2.2 ho).mono ?_
 rintro e w' h1
 exact V_of_run a6 a7 h1 (Option.some.inj h)
theorem Gc.calls (k : Nat) (b1 b2 : ByteArray) (a0 : Nat → Prop) (a9 : Option Addr) (b4 : Nat) (a5 : List S49) (b3 : Int) (a4 : Nat → Prop) (b0 : Option Addr) (b5 : Nat) (a6 : List S51) (a1 a2 : Int) (a3 : ByteArray) (r1 r2 : ByteArray) (r3 : List S49) (r4 : Int) (r5 : List S51) (r6 : Int) (w : World) (a7 : Kd.V k49 49 w w.heap.size (fun k_ => a0 k_) (.slice a9 a5.length b4) a5) (a8 : Kd.V k51 51 w w.heap.size (fun k_ => a4 k_) (.slice b0 a6.length b5) a6) (h : Gc.f k b1 b2 a5 b3 a6 a1 a2 a3 = some (r1, r2, r3, r4, r5, r6)) :
  Calls Try.prog 20 #[.agg #[.string b1, .string b2, .slice a9 a5.length b4, .int .i64 b3, .slice b0 a6.length b5], .int .i64 a1, .int .i64 a2, .string a3] w fun e w' => ∃ b6 b7 : Value, e = .returned (.tuple #[.agg #[.string r1, .string r2, b6, .int .i64 r4, b7], .int .i64 r6]) ∧ Kd.V k49 49 w' w.heap.size (fun k_ => ((a0 k_ ∨ a4 k_) ∨ w.heap.size ≤ k_)) b6 r3 ∧ Kd.V k51 51 w' w.heap.size (fun k_ => ((a0 k_ ∨ a4 k_) ∨ w.heap.size ≤ k_)) b7 r5 ∧ Below w.heap.size w w' := by
 obtain ⟨o, ho, h⟩ := Option.bind_eq_some_iff.1 h
 obtain ⟨_, b9, b8⟩ := Kd.V_reads' a7
 refine (done_calls k b1 b2 a9 b4 a5 b3 b0 b5 a6 a1 a2 a3 o w b8 b9 (Kd.V_reads' a8).2.2 ho).mono ?_
 rintro e w' h1
 exact V_of_run a7 a8 h1 (Option.some.inj h)
end X
set_option maxHeartbeats 1000000 in
theorem tok_test (g : Nat) (token : Int) (s : S51) (w : World) (hg : w.heap[g]? = some (.cells #[.int .i64 token] 3 (0, 0))) :
  Calls Try.prog 62 #[.agg #[(.int .i64 s.f0), (.int .i64 s.f1), (.int .i64 s.f2), (.int .i64 s.f3), (.string s.f4)], .pointer (some ⟨g, 0, none⟩)] w fun e w' => e = .returned (.bool (s.f3 == token)) ∧ Below w.heap.size w w' := by
 have a4 := Try.underlying51
 have HB := am (Below.refl w.heap.size w)
 have BG := am hg
 clear hg
 go_enter Try.func62, Try.ntmps62
 go_wp2_with ((with_reducible refine gD 2 ?_); refine bz 2 (#[(.int .i64 s.f0), (.int .i64 s.f1), (.int .i64 s.f2), (.int .i64 s.f3), (.string s.f4)] : Array Value) 51 HB ?_; clear HB; intro g2 hg a2 hb B2 a3 HB; have a0 := nP hg BG; have a1 := am a0.out.symm; replace BG := kP BG hb; clear hb hg; obtain ⟨b0, b1, b2, b3, b4⟩ := ce5 B2.out; have k0 : a2.cell? ⟨g, 0, none⟩ = some (.int .i64 token) := bc BG.out)
 go_ret
 exact ⟨rfl, HB.out⟩
set_option maxHeartbeats 1000000 in
theorem tok_idx (g : Nat) (token : Int) (A0 : Option Addr) (c0 : Nat) (l0 : List S51) (w : World) (a3 : Kd.C k51 w A0 l0.length l0) (hl : l0.length ≤ 1000000) (hg : w.heap[g]? = some (.cells #[.int .i64 token] 3 (0, 0))) :
  Calls Try.prog 86 #[.slice A0 l0.length c0, .func (.func 62) #[] #[.pointer (some ⟨g, 0, none⟩)]] w fun e w' => (∃ i : Int, e = .returned (.int .i64 i) ∧ decide (i ≥ 0) = l0.any fun s => s.f3 == token) ∧ Below w.heap.size w w' := by
 have b0 := Try.underlying51
 have HR := am a3
 have HL := am hl
 obtain ⟨r, hr⟩ : ∃ r, (l0.any fun s => s.f3 == token) = r := ⟨_, rfl⟩
 rw [hr]
 have HH := am hr
 have BG := am hg
 clear hl hr a3 hg
 obtain ⟨n, hn⟩ : ∃ n : Nat, l0.length = n := ⟨_, rfl⟩
 rw [hn] at HR HL ⊢
 have HN := am hn
 clear hn
 go_enter Try.func86, Try.ntmps86
 go_wp2
 go_loopw [8] (fun i wr => ∃ q : Nat, q ≤ n ∧ i = .int .i64 q ∧ Aside0 (((l0.drop q).any fun s => s.f3 == token) = r) ∧ Aside0 (Below w.heap.size w wr)) (fun i _ => n - (intOf i).toNat)
 case atStart => exact ⟨0, Nat.zero_le _, rfl, HH, ⟨Below.refl _ _⟩⟩
 case round =>
  obtain ⟨q, hk, rfl, HA, HB⟩ := hrel
  by_cases b1 : q < n
  ·
   have hn := HN.out
   have a9 := HL.out
   obtain ⟨ad, rfl, a4, a5, a6, a7, a8⟩ := at_T51 (Kd.C_below HR.out HB.out) (q : Int) (by omega) (by omega)
   have et : rd_T51 l0 (q : Int) = l0[q]'(by omega) := by simp [rd_T51, List.getD_eq_getElem?_getD, List.getElem?_eq_getElem (show q < l0.length by omega)]
   have ha := HA.out
   rw [List.drop_eq_getElem_cons (by omega), List.any_cons] at ha
   rw [et] at a4 a5 a6 a7 a8
   have BW := am (blk_below BG.out HB.out)
   clear et
   generalize l0[q]'(by omega) = s at *
   rw [Int.toNat_natCast] at a4 a5 a6 a7 a8
   have a1 := am ha
   clear ha HA hn
   have HT := am (fun (W : World) hW => tok_test g token s W hW)
   cases hb : (s.f3 == token)
   ·
    have a0 := am hb
    clear hb
    have HA := am (show ((l0.drop (q + 1)).any fun s => s.f3 == token) = r from by have h_ := a1.out; rw [a0.out, Bool.false_or] at h_; exact h_)
    clear a1
    go_wp2_with (go_at_call 62; refine (HT.out _ (by (with_reducible repeat (first | refine blk_drewN ?_ _ | refine blk_drew ?_ | refine blk_alloc ?_ _)); exact BW.out)).mono ?_; rintro e w1 ⟨rfl, hb⟩; rw [a0.out]; have a2 := am (below_step (by repeat (first | (with_reducible first | exact HB.out | apply below_alloc | apply pw_below_drewN | apply below_drew1) | exact HB.out)) hb); clear hb)
    go_roundw
    case rel => exact ⟨q + 1, by omega, by go_num, HA, a2⟩
    case measure => simp [intOf]; omega
   have a0 := am hb
   clear hb
   obtain rfl : true = r := by have h_ := a1.out; rw [a0.out, Bool.true_or] at h_; exact h_
   clear a1
   go_wp2_with (go_at_call 62; refine (HT.out _ (by (with_reducible repeat (first | refine blk_drewN ?_ _ | refine blk_drew ?_ | refine blk_alloc ?_ _)); exact BW.out)).mono ?_; rintro e w1 ⟨rfl, hb⟩; rw [a0.out]; have a2 := am (below_step (by repeat (first | (with_reducible first | exact HB.out | apply below_alloc | apply pw_below_drewN | apply below_drew1) | exact HB.out)) hb); clear hb)
   go_ret
   exact ⟨⟨_, rfl, by simp⟩, a2.out⟩
  obtain rfl : q = n := by omega
  have ha := HA.out
  rw [List.drop_eq_nil_of_le (by rw [HN.out]; omega), List.any_nil] at ha
  subst ha
  clear HA
  go_wp2
  go_ret
  exact ⟨⟨_, rfl, by simp⟩, HB.out⟩
theorem tok_calls (g : Nat) (token : Int) (A0 : Option Addr) (c0 : Nat) (l0 : List S51) (w : World) (a0 : Kd.C k51 w A0 l0.length l0) (hl : l0.length ≤ 1000000) (hg : w.heap[g]? = some (.cells #[.int .i64 token] 3 (0, 0))) :
  Calls Try.prog 61 #[.slice A0 l0.length c0, .func (.func 62) #[] #[.pointer (some ⟨g, 0, none⟩)]] w fun e w' => e = .returned (.bool (!noTok token l0)) ∧ Below w.heap.size w w' := by
 have K := am (tok_idx g token A0 c0 l0 w a0 hl hg)
 clear a0 hg
 unfold noTok
 rw [Bool.not_not]
 go_enter Try.func61, Try.ntmps61
 go_wp2_with (go_at_call 86; refine K.out.mono ?_; rintro e w1 ⟨⟨i, rfl, hi⟩, hb⟩; have HI := am hi; have a1 := am hb; clear hb hi)
 go_ret
 exact ⟨by rw [← HI.out]; rfl, a1.out⟩
end Go.Proofs.Ytabmkighhmchmaa
