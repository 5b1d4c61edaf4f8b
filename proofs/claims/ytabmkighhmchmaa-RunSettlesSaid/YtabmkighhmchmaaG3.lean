/- Words and walks for the law RunSettles, joined and made small by a program of mine. -/
import Derived.Test.YtabmkighhmchmaaG2
import Derived.LoopTactic
import Derived.Outline
import Derived.BigRegion
import Derived.RangeFuncCalls
import Derived.OrdersIn
import Derived.TacticsIn
import Derived.Deep.RegionWith
namespace Go.Proofs.Ytabmkighhmchmaa
open Go.RowKit Go.YW.PrintWords Go.YW.PrintLast Go.YW.PrintMore Go.YW.Sq
open X (S49 S51 k49 k51 q0e q0c q1u z51)
set_option linter.unusedVariables false
set_option linter.unusedSimpArgs false
def q0u (s : S51) : S51 := if s.f0 = 0 ∨ s.f0 = 1 ∨ s.f0 = 2 then ⟨5, s.f1, 0, 0, s.f4⟩ else s
def q2e (s : S51) : S51 := if s.f0 = 0 then ⟨1, s.f1, s.f2, s.f3, s.f4⟩ else s
theorem cancelS_f (s : S51) : X.Ga.f s.f0 s.f1 s.f2 s.f3 s.f4 = some ((q0u s).f0, (q0u s).f1, (q0u s).f2, (q0u s).f3, (q0u s).f4) := by
 unfold X.Ga.f q0u
 by_cases h0 : s.f0 = 0
 ·
  rw [if_pos h0, if_pos (Or.inl h0)]
 rw [if_neg h0]
 by_cases h1 : s.f0 = 1
 ·
  rw [if_pos h1, if_pos (Or.inr (Or.inl h1))]
 rw [if_neg h1]
 by_cases h2 : s.f0 = 2
 ·
  rw [if_pos h2, if_pos (Or.inr (Or.inr h2))]
 rw [if_neg h2, if_neg (by simp [h0, h1, h2])]
theorem readyS_f (s : S51) : X.Gf.f s.f0 s.f1 s.f2 s.f3 s.f4 = some ((q2e s).f0, (q2e s).f1, (q2e s).f2, (q2e s).f3, (q2e s).f4) := by
 unfold X.Gf.f q2e
 by_cases h0 : s.f0 = 0
 ·
  rw [if_pos h0, if_pos h0]
 rw [if_neg h0, if_neg h0]
def mendTo (ts : List S49) (xs : List S51) : Nat → Option (List S51)
 | 0 => some xs
 | q + 1 => (mendTo ts xs q).bind fun ys => (readyO ts ys (q : Int)).bind fun b => some (if b = true then ys.set q (q2e (q0c ys (q : Int))) else ys)
def mendF (ts : List S49) (is : Int) (xs : List S51) : Option (Int × List S51) :=
 if xs.length ≤ 1000000 then
  if 0 < cntI [4] (upto xs xs.length) then some (2, xs.map q0u)
  else (mendTo ts xs xs.length).bind fun ys => some (if cntI [3] (upto ys ys.length) = (ys.length : Int) then 1 else is, ys)
 else none
theorem mendTo_len (ts : List S49) (xs : List S51) : ∀ q ys, mendTo ts xs q = some ys → ys.length = xs.length := by
 intro q
 induction q with
 | zero => intro ys h; cases h; rfl
 | succ q ih =>
  intro ys h
  obtain ⟨y0, h1, h2⟩ := Option.bind_eq_some_iff.1 h
  obtain ⟨b, h3, h4⟩ := Option.bind_eq_some_iff.1 h2
  obtain rfl := Option.some.inj h4
  cases b <;> simp [ih _ h1]
theorem mendTo_le (ts : List S49) (xs : List S51) (n : Nat) (z : List S51) (h : mendTo ts xs n = some z) : ∀ q, q ≤ n → ∃ ys, mendTo ts xs q = some ys := by
 induction n generalizing z with
 | zero => intro q hq; (obtain rfl : q = 0 := by omega); exact ⟨_, h⟩
 | succ n ih =>
  intro q hq
  obtain ⟨y0, h1, _⟩ := Option.bind_eq_some_iff.1 h
  rcases Nat.lt_or_ge q (n + 1) with hl | hg
  ·
   exact ih y0 h1 q (by omega)
  obtain rfl : q = n + 1 := by omega
  exact ⟨_, h⟩
theorem lit_C (W : World) (xs : List Int) (hl : xs.length ≤ 1000) : Kd.C (Kd.int .i64) (W.alloc (.cells (encs (Value.int .i64) xs).toArray 3)) (some ⟨W.heap.size, 0, none⟩) xs.length xs :=
 (Kd.R_reads' (d := Kd.int .i64) (Kd.R_of_own (ok := fun _ => True) (own_lit_of W 0 3 xs (Nat.zero_le _) (by omega)) (fun _ _ => trivial))).2.2
abbrev St5 (W : World) (g o : Nat) (s : S51) : World := ((((W.setCell ⟨g, o, none⟩ (.int .i64 s.f0)).setCell ⟨g, o + 1, none⟩ (.int .i64 s.f1)).setCell ⟨g, o + 2, none⟩ (.int .i64 s.f2)).setCell ⟨g, o + 3, none⟩ (.int .i64 s.f3)).setCell ⟨g, o + 4, none⟩ (.string s.f4)
theorem q3t (W0 W : World) (g o : Nat) (s : S51) (hb : Below W0.heap.size W0 W) (h : W0.heap.size ≤ g) : Below W0.heap.size W0 (St5 W g o s) := q0n (q0n (q0n (q0n (q0n hb h) h) h) h) h
theorem q3i (W : World) (g o k : Nat) (s : S51) (cs : Array Value) (t : TypeId) (hb : W.heap[k]? = some (.cells cs t (0, 0))) (h : k ≠ g) : (St5 W g o s).heap[k]? = some (.cells cs t (0, 0)) := by
 unfold St5
 exact q0l (q0l (q0l (q0l (q0l hb h _) h _) h _) h _) h _
theorem put51 (W : World) (base g n a1 : Nat) (ok : Nat → Prop) (l : List S51) (h : Kd.R k51 51 W base ok (.slice (some ⟨g, 0, none⟩) n a1) l) (q : Nat) (hq : q < n) (s' : S51) : Kd.R k51 51 (St5 W g (q * 5) s') base ok (.slice (some ⟨g, 0, none⟩) n a1) (l.set q s') := by
 obtain ⟨c, a2, hM, a3, a4⟩ := Kd.R_elem h z51 (q : Int) (by omega) (by omega)
 have a0 : c.length = 5 := a2
 have h1 := (Kd.R_seg h (q : Int) (by omega) (by omega) (c := c) (seg := [.int .i64 s'.f0, .int .i64 s'.f1, .int .i64 s'.f2, .int .i64 s'.f3, .string s'.f4]) (j := 0) a2 a3 (by show 0 + 5 ≤ 5; decide) (x' := s') (okp := fun _ => False) (by
  rw [List.take_zero, List.nil_append, List.drop_eq_nil_of_le (by simp [a0]), List.append_nil]
  exact X.k51_mkM _ _ _ s') (fun _ h => h.elim)).1
 rw [Int.toNat_natCast] at h1
 exact h1
theorem meas51 (n q : Nat) (z : Int) (hz : z = ((q + 1 : Nat) : Int)) (h : q < n) : n - (intOf (.int .i64 z)).toNat < n - (intOf (.int .i64 (q : Int))).toNat := by
 subst hz
 simp only [intOf, Int.toNat_natCast]
 omega
abbrev St27 (W : World) (g : Nat) (a b v c d : Value) : World := ((((W.setCell ⟨g, 0, none⟩ a).setCell ⟨g, 1, none⟩ b).setCell ⟨g, 2, none⟩ v).setCell ⟨g, 3, none⟩ c).setCell ⟨g, 4, none⟩ d
theorem fin27 (w W : World) (g : Nat) (x0 x1 x2 x3 x4 a b v c d : Value) (l : List S51) (u : Value) (hg : W.heap[g]? = some (.cells #[x0, x1, x2, x3, x4] 27 (0, 0))) (a0 : w.heap.size ≤ g) (hb : Below w.heap.size w W) (h : Kd.R k51 51 W w.heap.size (fun _ => True) u l) :
  (St27 W g a b v c d).heap[g]? = some (.cells #[a, b, v, c, d] 27 (0, 0)) ∧ Kd.R k51 51 (St27 W g a b v c d) w.heap.size (fun _ => True) u l ∧ Below w.heap.size w (St27 W g a b v c d) := by
 have h0 := q0o (cs := #[x0, x1, x2, x3, x4]) (cs' := #[a, x1, x2, x3, x4]) hg 0 a rfl
 have h1 := q0o (cs := #[a, x1, x2, x3, x4]) (cs' := #[a, b, x2, x3, x4]) h0 1 b rfl
 have h2 := q0o (cs := #[a, b, x2, x3, x4]) (cs' := #[a, b, v, x3, x4]) h1 2 v rfl
 have h3 := q0o (cs := #[a, b, v, x3, x4]) (cs' := #[a, b, v, c, x4]) h2 3 c rfl
 have h4 := q0o (cs := #[a, b, v, c, x4]) (cs' := #[a, b, v, c, d]) h3 4 d rfl
 exact ⟨h4, Kd.R_set (Kd.R_set (Kd.R_set (Kd.R_set (Kd.R_set h hg (by decide) 0 a) h0 (by decide) 1 b) h1 (by decide) 2 v) h2 (by decide) 3 c) h3 (by decide) 4 d, q0n (q0n (q0n (q0n (q0n hb a0) a0) a0) a0) a0⟩
def mapTo (q : Nat) (l : List S51) : List S51 := (l.take q).map q0u ++ l.drop q
theorem mapTo_zero (l : List S51) : mapTo 0 l = l := by simp [mapTo]
theorem mapTo_all (l : List S51) : mapTo l.length l = l.map q0u := by simp [mapTo]
theorem mapTo_len (q : Nat) (l : List S51) (h : q ≤ l.length) : (mapTo q l).length = l.length := by simp [mapTo]; omega
theorem mapTo_at (q : Nat) (l : List S51) (h : q < l.length) : (mapTo q l).getD q z51 = l[q] := by
 unfold mapTo
 rw [List.getD_eq_getElem?_getD, List.getElem?_append_right (by simp; omega)]
 simp
 rw [Nat.min_eq_left (by omega), Nat.sub_self, Nat.add_zero, List.getElem?_eq_getElem h]
 rfl
theorem mapTo_set (q : Nat) (l : List S51) (h : q < l.length) : (mapTo q l).set q (q0u l[q]) = mapTo (q + 1) l := by
 unfold mapTo
 rw [List.set_append_right _ _ (by simp; omega), List.length_map, List.length_take, Nat.min_eq_left (by omega), Nat.sub_self, List.drop_eq_getElem_cons h, List.set_cons_zero, List.take_succ_eq_append_getElem h, List.map_append, List.append_assoc]
 rfl
set_option maxHeartbeats 4000000 in
set_option maxRecDepth 100000 in
theorem mend_calls (ky nm : ByteArray) (A1 : Option Addr) (c1 : Nat) (ts : List S49) (is : Int) (A2 : Option Addr) (c2 : Nat) (xs : List S51) (is' : Int) (ys : List S51) (w : World) (hT : Kd.C k49 w A1 ts.length ts) (hC : Kd.C k51 w A2 xs.length xs) (h : mendF ts is xs = some (is', ys)) :
  Calls Try.prog 30 #[.agg #[.string ky, .string nm, .slice A1 ts.length c1, .int .i64 is, .slice A2 xs.length c2]] w fun e w' => ∃ v : Value, e = .returned (.agg #[.string ky, .string nm, .slice A1 ts.length c1, .int .i64 is', v]) ∧ Kd.R k51 51 w' w.heap.size (fun _ => True) v ys ∧ Below w.heap.size w w' := by
 have j7 := Try.underlying27
 have j8 := Try.underlying51
 unfold mendF at h
 by_cases hl : xs.length ≤ 1000000
 case neg => rw [if_neg hl] at h; cases h
 rw [if_pos hl] at h
 have HC := am hC
 have HT := am hT
 have HL := am hl
 have HH := am h
 have HB := am (Below.refl w.heap.size w)
 clear hT hC hl h
 go_enter Try.func30, Try.ntmps30
 go_upto_region 2 with (first | ((with_reducible refine q3b (N := 1) rfl ?_); refine q2p ?hg (N := 1) ?hd (cs := (#[.string ky, .string nm, .slice A1 ts.length c1, .int .i64 is, .slice A2 xs.length c2] : Array Value)) (t := 27) ?hr ?_; (case hd => rfl); (case hg => rfl); (case hr => first | (go_simp; done) | (go_simp; rfl)); intro g1 hg w1 a5 hb; have G1 := am (show w.heap.size ≤ g1 by rw [hg]; exact q0p (by (with_reducible repeat (first | apply q0d | apply q0m | apply q1l)); exact HB.out)); have NB := am (q0j (by (with_reducible repeat (first | apply q0d | apply q0m | apply q1l)); exact HB.out) hb); clear HB; have HB := NB; have B1 := am a5; clear NB hb a5 hg) | ((with_reducible refine q3b (N := 2) rfl ?_); refine q2p ?hg (N := 2) ?hd (cs := (#[.string (⟨#[]⟩ : ByteArray), .string (⟨#[]⟩ : ByteArray), .slice none 0 0, .int .i64 0, .slice none 0 0] : Array Value)) (t := 27) ?hr ?_; (case hd => rfl); (case hg => rfl); (case hr => first | (go_simp; done) | (go_simp; rfl)); intro g2 hg w2 a5 hb; have G2 := am (show w.heap.size ≤ g2 by rw [hg]; exact q0p (by (with_reducible repeat (first | apply q0d | apply q0m | apply q1l)); exact HB.out)); have a6 := am (show g1 ≠ g2 by rw [hg]; exact Nat.ne_of_lt (q2h B1.out)); have X1 := am (q0b B1.out hb); have NB := am (q0j (by (with_reducible repeat (first | apply q0d | apply q0m | apply q1l)); exact HB.out) hb); clear HB B1; have HB := NB; have B1 := X1; have B2 := am a5; clear NB X1 hb a5 hg; have a2 : w2.cell? ⟨g1, 4, none⟩ = some (.slice A2 xs.length c2) := bc B1.out; have f7 := q0k B1.out 4) | (go_at_call 37; refine (q4b A2 c2 xs _ (Kd.C_below HC.out (by (with_reducible repeat (first | apply q0d | apply q0m | apply q1l)); exact HB.out)) HL.out).mono ?_; rintro e w3 ⟨v3, rfl, ho, hb⟩; obtain ⟨A3, c3, e3⟩ := Kd.R_slice ho; subst e3; have H3 := am ho; have j2 := am (q0p HB.out); have X1 := am (q0b B1.out hb); have X2 := am (q0b B2.out hb); have NB := am (q0j (by (with_reducible repeat (first | apply q0d | apply q0m | apply q1l)); exact HB.out) hb); clear HB B1 B2 a2 f7; have HB := NB; have B1 := X1; have B2 := X2; clear NB X1 X2 ho hb; have a2 : w3.cell? ⟨g1, 4, none⟩ = some (.slice A2 xs.length c2) := bc B1.out; have f7 := q0k B1.out 4))
 have X1 := am (show (w3.setCell ⟨g1, 4, none⟩ (.slice A3 xs.length c3)).heap[g1]? = some (.cells (#[.string ky, .string nm, .slice A1 ts.length c1, .int .i64 is, .slice A3 xs.length c3] : Array Value) 27 (0, 0)) from q0o (cs := (#[.string ky, .string nm, .slice A1 ts.length c1, .int .i64 is, .slice A2 xs.length c2] : Array Value)) B1.out 4 _ rfl)
 have X2 := am (show (w3.setCell ⟨g1, 4, none⟩ (.slice A3 xs.length c3)).heap[g2]? = some (.cells (#[.string (⟨#[]⟩ : ByteArray), .string (⟨#[]⟩ : ByteArray), .slice none 0 0, .int .i64 0, .slice none 0 0] : Array Value) 27 (0, 0)) from q0l B2.out a6.out.symm _)
 have X3 := am (show Kd.R k51 51 (w3.setCell ⟨g1, 4, none⟩ (.slice A3 xs.length c3)) w.heap.size (fun _ => True) (.slice A3 xs.length c3) xs from Kd.R_set (Kd.R_lower H3.out j2.out) B1.out (by decide) 4 _)
 have XB := am (show Below w.heap.size w (w3.setCell ⟨g1, 4, none⟩ (.slice A3 xs.length c3)) from q0n HB.out G1.out)
 clear B1 B2 H3 HB a2 f7
 have B1 := X1
 have B2 := X2
 have H3 := X3
 have HB := XB
 clear X1 X2 X3 XB
 generalize w3.setCell ⟨g1, 4, none⟩ (.slice A3 xs.length c3) = w4 at *
 clear HC
 have b3 := am (fun (W : World) (hW : Below w4.heap.size w4 W) (j : Int) => count_in ky nm A1 ts.length c1 is A3 c3 xs (some ⟨W.heap.size, 0, none⟩) 1 [j] (W.alloc (.cells (encs (Value.int .i64) [j]).toArray 3)) (Kd.C_alloc (Kd.C_below (Kd.R_reads' H3.out).2.2 hW) _) HL.out (lit_C W [j] (by simp)) (by simp) (by simp))
 have a8 : w4.cell? ⟨g1, 0, none⟩ = some (.string ky) := bc B1.out
 have a9 : w4.cell? ⟨g1, 1, none⟩ = some (.string nm) := bc B1.out
 have b0 : w4.cell? ⟨g1, 2, none⟩ = some (.slice A1 ts.length c1) := bc B1.out
 have b1 : w4.cell? ⟨g1, 3, none⟩ = some (.int .i64 is) := bc B1.out
 have a2 : w4.cell? ⟨g1, 4, none⟩ = some (.slice A3 xs.length c3) := bc B1.out
 by_cases d8 : 0 < cntI [4] (upto xs xs.length)
 ·
  have hy := HH.out
  rw [if_pos d8] at hy
  obtain ⟨rfl, rfl⟩ : 2 = is' ∧ xs.map q0u = ys := by simpa using hy
  clear hy HH
  go_wp2_with (go_at_call 46; refine (b3.out w4 (Below.refl _ _) 4).mono ?_; rintro e w5 ⟨rfl, hb⟩; have X1 := am (q0b (q0h B1.out _) hb); have X2 := am (q0b (q0h B2.out _) hb); have X3 := am (Kd.R_below (Kd.R_alloc H3.out _) hb); have XB := am (q0j (q0d HB.out _) hb); clear HB B1 B2 H3 a8 a9 b0 b1 a2; have HB := XB; have B1 := X1; have B2 := X2; have H3 := X3; clear XB X1 X2 X3 hb; have a2 : w5.cell? ⟨g1, 4, none⟩ = some (.slice A3 xs.length c3) := bc B1.out)
  clear b3
  have j6 := (Kd.R_reads' H3.out).2.1
  go_loopw [18] (fun j9 wr => ∃ q : Nat, j9 = .int .i64 q ∧ q0f (q ≤ xs.length) ∧ q0f (Kd.R k51 51 wr w.heap.size (fun _ => True) (.slice A3 xs.length c3) (mapTo q xs)) ∧ q0f (wr.heap[g1]? = some (.cells (#[.string ky, .string nm, .slice A1 ts.length c1, .int .i64 is, .slice A3 xs.length c3] : Array Value) 27 (0, 0))) ∧ q0f (wr.heap[g2]? = some (.cells (#[.string (⟨#[]⟩ : ByteArray), .string (⟨#[]⟩ : ByteArray), .slice none 0 0, .int .i64 0, .slice none 0 0] : Array Value) 27 (0, 0))) ∧ q0f (Below w.heap.size w wr)) (fun i _ => xs.length - (intOf i).toNat)
  case atStart => exact ⟨0, rfl, ⟨Nat.zero_le _⟩, by rw [mapTo_zero]; exact H3, B1, B2, HB⟩
  case round =>
   clear H3 B1 B2 HB a2
   obtain ⟨q, rfl, HQ, H3, B1, B2, HB⟩ := hrel
   by_cases b2 : q < xs.length
   ·
    have EW : wrap64 ((q : Int) + 1) = ((q + 1 : Nat) : Int) := by have := HL.out; unfold wrap64; omega
    obtain ⟨g, j3, e6, h0, j4, b7, g7⟩ := Kd.R_form H3.out (by rw [mapTo_len _ _ (by omega)]; omega)
    injection e6 with e6 e7 e8
    subst e6
    subst e8
    clear e7
    obtain ⟨c, g9, hM, a3, d9⟩ := Kd.R_elem H3.out z51 (q : Int) (by omega) (by omega)
    rw [Int.toNat_natCast, mapTo_at q xs b2] at hM
    rw [Int.toNat_natCast] at a3 d9
    have h2 := mapTo_set q xs b2
    generalize xs[q] = s at *
    obtain rfl := X.k51_openM hM
    clear hM g9
    have t0 : wr.cell? ⟨g, q * 5, none⟩ = some (.int .i64 s.f0) := a3 0 _ rfl
    have t1 : wr.cell? ⟨g, q * 5 + 1, none⟩ = some (.int .i64 s.f1) := a3 1 _ rfl
    have t2 : wr.cell? ⟨g, q * 5 + 2, none⟩ = some (.int .i64 s.f2) := a3 2 _ rfl
    have t3 : wr.cell? ⟨g, q * 5 + 3, none⟩ = some (.int .i64 s.f3) := a3 3 _ rfl
    have t4 : wr.cell? ⟨g, q * 5 + 4, none⟩ = some (.string s.f4) := a3 4 _ rfl
    have p3 : (q : Int) < (xs.length : Int) := by omega
    clear a3 d9 g7
    go_upto_region 6 with fail
    have X4 := am (q1j wr (.cells #[.int .i64 s.f0, .int .i64 s.f1, .int .i64 s.f2, .int .i64 s.f3, .string s.f4] 51))
    have X1 := am (q0h B1.out (.cells #[.int .i64 s.f0, .int .i64 s.f1, .int .i64 s.f2, .int .i64 s.f3, .string s.f4] 51))
    have X2 := am (q0h B2.out (.cells #[.int .i64 s.f0, .int .i64 s.f1, .int .i64 s.f2, .int .i64 s.f3, .string s.f4] 51))
    have X3 := am (Kd.R_alloc H3.out (.cells #[.int .i64 s.f0, .int .i64 s.f1, .int .i64 s.f2, .int .i64 s.f3, .string s.f4] 51))
    have XB := am (q0d HB.out (.cells #[.int .i64 s.f0, .int .i64 s.f1, .int .i64 s.f2, .int .i64 s.f3, .string s.f4] 51))
    have bA : Below wr.heap.size wr (wr.alloc (.cells #[.int .i64 s.f0, .int .i64 s.f1, .int .i64 s.f2, .int .i64 s.f3, .string s.f4] 51)) := q0d (Below.refl _ _) _
    have y0 := (bA.cell (World.block_lt_of_cell? wr _ t0)).trans t0
    have y1 := (bA.cell (World.block_lt_of_cell? wr _ t1)).trans t1
    have y2 := (bA.cell (World.block_lt_of_cell? wr _ t2)).trans t2
    have y3 := (bA.cell (World.block_lt_of_cell? wr _ t3)).trans t3
    have y4 := (bA.cell (World.block_lt_of_cell? wr _ t4)).trans t4
    have GL := am (show g < (wr.alloc (.cells #[.int .i64 s.f0, .int .i64 s.f1, .int .i64 s.f2, .int .i64 s.f3, .string s.f4] 51)).heap.size from by have := bA.size; omega)
    have e9 := am (Kd.own_blk (Kd.R_ne H3.out B1.out (by decide)))
    have f5 := am (Kd.own_blk (Kd.R_ne H3.out B2.out (by decide)))
    clear B1 B2 HB H3 t0 t1 t2 t3 t4 bA
    have B1 := X1
    have B2 := X2
    have B4 := X4
    have HB := XB
    have H3 := X3
    clear X1 X2 X4 XB X3
    have a2 : (wr.alloc (.cells #[.int .i64 s.f0, .int .i64 s.f1, .int .i64 s.f2, .int .i64 s.f3, .string s.f4] 51)).cell? ⟨g1, 4, none⟩ = some (.slice (some ⟨g, 0, none⟩) xs.length c3) := bc B1.out
    have d0 : (wr.alloc (.cells #[.int .i64 s.f0, .int .i64 s.f1, .int .i64 s.f2, .int .i64 s.f3, .string s.f4] 51)).cell? ⟨wr.heap.size, 0, none⟩ = some (.int .i64 s.f0) := bc B4.out
    have d1 : (wr.alloc (.cells #[.int .i64 s.f0, .int .i64 s.f1, .int .i64 s.f2, .int .i64 s.f3, .string s.f4] 51)).cell? ⟨wr.heap.size, 1, none⟩ = some (.int .i64 s.f1) := bc B4.out
    have d2 : (wr.alloc (.cells #[.int .i64 s.f0, .int .i64 s.f1, .int .i64 s.f2, .int .i64 s.f3, .string s.f4] 51)).cell? ⟨wr.heap.size, 2, none⟩ = some (.int .i64 s.f2) := bc B4.out
    have d3 : (wr.alloc (.cells #[.int .i64 s.f0, .int .i64 s.f1, .int .i64 s.f2, .int .i64 s.f3, .string s.f4] 51)).cell? ⟨wr.heap.size, 3, none⟩ = some (.int .i64 s.f3) := bc B4.out
    have d4 : (wr.alloc (.cells #[.int .i64 s.f0, .int .i64 s.f1, .int .i64 s.f2, .int .i64 s.f3, .string s.f4] 51)).cell? ⟨wr.heap.size, 4, none⟩ = some (.string s.f4) := bc B4.out
    generalize wr.alloc (.cells #[.int .i64 s.f0, .int .i64 s.f1, .int .i64 s.f2, .int .i64 s.f3, .string s.f4] 51) = w8 at *
    generalize wr.heap.size = g4 at *
    have HY := am (fun (W : World) (hW : Below w8.heap.size w8 W) (j : Nat) (u : Value) (h : ([.int .i64 s.f0, .int .i64 s.f1, .int .i64 s.f2, .int .i64 s.f3, .string s.f4] : List Value)[j]? = some u) => show W.cell? ⟨g, (q : Int).toNat * 5 + j, none⟩ = some u from by
     rw [Int.toNat_natCast]
     rw [hW.cell GL.out]
     rcases j with _ | _ | _ | _ | _ | j <;> simp at h <;> subst h <;> assumption)
    have b3 := am (fun (W : World) => X.Ga.calls s.f0 s.f1 s.f2 s.f3 s.f4 _ _ _ _ _ W (cancelS_f s))
    clear y0 y1 y2 y3 y4 B4 a6
    have a4 := am (fun (W : World) (hW : Below w8.heap.size w8 W) (j : Nat) => show W.frozen? ⟨g, j, none⟩ = false from by
     obtain ⟨g_, f6, e_, _, _, b8, g8⟩ := Kd.R_form (Kd.R_below H3.out hW) (by rw [mapTo_len _ _ (by omega)]; omega)
     injection e_ with e_
     injection e_ with e_
     injection e_ with e_
     subst e_
     exact q0k g8 j)
    go_region_with (go_at_call 64; refine (b3.out _).mono ?_; rintro e w9 ⟨rfl, hb⟩; have HZ := am (q0j (by (with_reducible repeat (first | apply q0d | apply q0m | apply q1l)); exact (Below.refl w8.heap.size w8)) hb); have z0 := HY.out _ HZ.out 0 _ rfl; have z1 := HY.out _ HZ.out 1 _ rfl; have z2 := HY.out _ HZ.out 2 _ rfl; have z3 := HY.out _ HZ.out 3 _ rfl; have z4 := HY.out _ HZ.out 4 _ rfl; rw [Int.toNat_natCast] at z0 z1 z2 z3 z4; rw [Nat.add_zero] at z0; have f8 := a4.out _ HZ.out (q * 5); have f9 := a4.out _ HZ.out (q * 5 + 1); have g0 := a4.out _ HZ.out (q * 5 + 2); have g3 := a4.out _ HZ.out (q * 5 + 3); have g5 := a4.out _ HZ.out (q * 5 + 4); have b6 : w9.cell? ⟨g1, 4, none⟩ = some (.slice (some ⟨g, 0, none⟩) xs.length c3) := (q0i (q0b B1.out HZ.out) 4).trans rfl; clear hb)
    all_goals
     have X1 := am (show (St5 w9 g (q * 5) (q0u s)).heap[g1]? = some (.cells (#[.string ky, .string nm, .slice A1 ts.length c1, .int .i64 is, .slice (some ⟨g, 0, none⟩) xs.length c3] : Array Value) 27 (0, 0)) from q3i _ _ _ _ _ _ _ (q0b B1.out HZ.out) e9.out.symm)
     have X2 := am (show (St5 w9 g (q * 5) (q0u s)).heap[g2]? = some (.cells (#[.string (⟨#[]⟩ : ByteArray), .string (⟨#[]⟩ : ByteArray), .slice none 0 0, .int .i64 0, .slice none 0 0] : Array Value) 27 (0, 0)) from q3i _ _ _ _ _ _ _ (q0b B2.out HZ.out) f5.out.symm)
     have X3 := am (show Kd.R k51 51 (St5 w9 g (q * 5) (q0u s)) w.heap.size (fun _ => True) (.slice (some ⟨g, 0, none⟩) xs.length c3) (mapTo (q + 1) xs) from by rw [← h2]; exact put51 _ _ _ _ _ _ _ (Kd.R_below H3.out HZ.out) q b2 _)
     have XB := am (show Below w.heap.size w (St5 w9 g (q * 5) (q0u s)) from q3t _ _ _ _ _ (q0j HB.out HZ.out) h0)
     clear B1 B2 HB H3 HZ HY a4 b3 z0 z1 z2 z3 z4 f8 f9 g0 g3 g5 b6 a2 d0 d1 d2 d3 d4
     unfold St5 at X1 X2 X3 XB
     generalize ((((w9.setCell ⟨g, q * 5, none⟩ (.int .i64 (q0u s).f0)).setCell ⟨g, q * 5 + 1, none⟩ (.int .i64 (q0u s).f1)).setCell ⟨g, q * 5 + 2, none⟩ (.int .i64 (q0u s).f2)).setCell ⟨g, q * 5 + 3, none⟩ (.int .i64 (q0u s).f3)).setCell ⟨g, q * 5 + 4, none⟩ (.string (q0u s).f4) = k1 at *
     go_wp2
     go_roundw
     case rel => exact ⟨q + 1, by go_num, ⟨by omega⟩, ⟨X3.out⟩, ⟨X1.out⟩, ⟨X2.out⟩, ⟨XB.out⟩⟩
     case measure => exact meas51 _ _ _ EW b2
   obtain rfl : q = xs.length := by have := HQ.out; omega
   rw [mapTo_all] at H3
   have a8 : wr.cell? ⟨g1, 0, none⟩ = some (.string ky) := bc B1.out
   have a9 : wr.cell? ⟨g1, 1, none⟩ = some (.string nm) := bc B1.out
   have b0 : wr.cell? ⟨g1, 2, none⟩ = some (.slice A1 ts.length c1) := bc B1.out
   have b1 : wr.cell? ⟨g1, 3, none⟩ = some (.int .i64 is) := bc B1.out
   have a2 : wr.cell? ⟨g1, 4, none⟩ = some (.slice A3 xs.length c3) := bc B1.out
   have i1 := q0k B1.out 3
   have h6 : wr.cell? ⟨g2, 0, none⟩ = some (.string (⟨#[]⟩ : ByteArray)) := bc B2.out
   have h7 : wr.cell? ⟨g2, 1, none⟩ = some (.string (⟨#[]⟩ : ByteArray)) := bc B2.out
   have h8 : wr.cell? ⟨g2, 2, none⟩ = some (.slice none 0 0) := bc B2.out
   have h9 : wr.cell? ⟨g2, 3, none⟩ = some (.int .i64 0) := bc B2.out
   have i0 : wr.cell? ⟨g2, 4, none⟩ = some (.slice none 0 0) := bc B2.out
   have f2 := q0k B2.out
   have i2 := f2 0
   have i3 := f2 1
   have i4 := f2 2
   have i5 := f2 3
   have i6 := f2 4
   have j0 := a6.out
   have j1 := a6.out.symm
   clear f2
   go_wp2
   have Y1 := q0o (cs := (#[.string ky, .string nm, .slice A1 ts.length c1, .int .i64 is, .slice A3 xs.length c3] : Array Value)) (cs' := (#[.string ky, .string nm, .slice A1 ts.length c1, .int .i64 2, .slice A3 xs.length c3] : Array Value)) B1.out 3 (.int .i64 2) rfl
   have Y2 := q0l B2.out a6.out.symm (p := ⟨g1, 3, none⟩) (.int .i64 2)
   obtain ⟨d5, d6, d7⟩ := fin27 w _ g2 _ _ _ _ _ (.string ky) (.string nm) (.slice A1 ts.length c1) (.int .i64 2) (.slice A3 xs.length c3) (xs.map q0u) (.slice A3 xs.length c3) Y2 G2.out (q0n HB.out G1.out) (Kd.R_set H3.out B1.out (by decide) 3 _)
   refine bodyPost_ret (q3k rfl (.cell g2 27 (#[.string ky, .string nm, .slice A1 ts.length c1, .int .i64 2, .slice A3 xs.length c3] : Array Value) (0, 0) _ rfl d5 Try.underlying27 rfl (by kernel_rfl) .nil)) rfl ?_
   exact ⟨_, rfl, d6, d7⟩
 have hy := HH.out
 rw [if_neg d8] at hy
 obtain ⟨zN, hm, hz⟩ := Option.bind_eq_some_iff.1 hy
 have HM := am (mendTo_le ts xs xs.length zN hm)
 have e2 := am hm
 have e5 := am (Option.some.inj hz)
 have k3 := HT
 clear hy hm hz HH
 go_wp2_with (go_at_call 46; refine (b3.out w4 (Below.refl _ _) 4).mono ?_; rintro e w5 ⟨rfl, hb⟩; have X1 := am (q0b (q0h B1.out _) hb); have X2 := am (q0b (q0h B2.out _) hb); have X3 := am (Kd.R_below (Kd.R_alloc H3.out _) hb); have XB := am (q0j (q0d HB.out _) hb); clear HB B1 B2 H3 a8 a9 b0 b1 a2; have HB := XB; have B1 := X1; have B2 := X2; have H3 := X3; clear XB X1 X2 X3 hb; have a2 : w5.cell? ⟨g1, 4, none⟩ = some (.slice A3 xs.length c3) := bc B1.out)
 clear b3
 have j6 := (Kd.R_reads' H3.out).2.1
 go_loopw [35] (fun k0 wr => ∃ (q : Nat) (zs : List S51), k0 = .int .i64 q ∧ q0f (q ≤ xs.length) ∧ q0f (mendTo ts xs q = some zs) ∧ q0f (Kd.R k51 51 wr w.heap.size (fun _ => True) (.slice A3 xs.length c3) zs) ∧ q0f (wr.heap[g1]? = some (.cells (#[.string ky, .string nm, .slice A1 ts.length c1, .int .i64 is, .slice A3 xs.length c3] : Array Value) 27 (0, 0))) ∧ q0f (wr.heap[g2]? = some (.cells (#[.string (⟨#[]⟩ : ByteArray), .string (⟨#[]⟩ : ByteArray), .slice none 0 0, .int .i64 0, .slice none 0 0] : Array Value) 27 (0, 0))) ∧ q0f (Below w.heap.size w wr)) (fun i _ => xs.length - (intOf i).toNat)
 case atStart => exact ⟨0, xs, rfl, ⟨Nat.zero_le _⟩, ⟨rfl⟩, H3, B1, B2, HB⟩
 case round =>
  clear H3 B1 B2 HB a2
  obtain ⟨q, zs, rfl, HQ, c7, H3, B1, B2, HB⟩ := hrel
  have b5 := am (mendTo_len ts xs q zs c7.out)
  by_cases b2 : q < xs.length
  ·
   have EW : wrap64 ((q : Int) + 1) = ((q + 1 : Nat) : Int) := by have := HL.out; unfold wrap64; omega
   obtain ⟨zn, e0⟩ := HM.out (q + 1) (by omega)
   have e1 := e0
   unfold mendTo at e0
   rw [c7.out, Option.bind_some] at e0
   obtain ⟨b, i7, i9⟩ := Option.bind_eq_some_iff.1 e0
   have h5 := am i7
   have c8 := am (Option.some.inj i9)
   have h4 := am e1
   clear e0 e1 i7 i9
   obtain ⟨g, j3, e6, h0, j4, b7, g7⟩ := Kd.R_form H3.out (by rw [b5.out]; omega)
   injection e6 with e6 e7 e8
   subst e6
   subst e8
   clear e7
   obtain ⟨c, g9, hM, a3, d9⟩ := Kd.R_elem H3.out z51 (q : Int) (by omega) (by omega)
   have i8 : zs.getD (q : Int).toNat z51 = q0c zs (q : Int) := rfl
   rw [i8] at hM
   rw [Int.toNat_natCast] at a3 d9
   have HS := am (show q0c zs (q : Int) = q0c zs (q : Int) from rfl)
   clear i8
   generalize j5 : q0c zs (q : Int) = s at hM c8
   obtain rfl := X.k51_openM hM
   clear hM g9 HS
   have t0 : wr.cell? ⟨g, q * 5, none⟩ = some (.int .i64 s.f0) := a3 0 _ rfl
   have t1 : wr.cell? ⟨g, q * 5 + 1, none⟩ = some (.int .i64 s.f1) := a3 1 _ rfl
   have t2 : wr.cell? ⟨g, q * 5 + 2, none⟩ = some (.int .i64 s.f2) := a3 2 _ rfl
   have t3 : wr.cell? ⟨g, q * 5 + 3, none⟩ = some (.int .i64 s.f3) := a3 3 _ rfl
   have t4 : wr.cell? ⟨g, q * 5 + 4, none⟩ = some (.string s.f4) := a3 4 _ rfl
   have p3 : (q : Int) < (xs.length : Int) := by omega
   clear a3 d9 g7
   go_upto_region 13 with fail
   have X4 := am (q1j wr (.cells #[.int .i64 s.f0, .int .i64 s.f1, .int .i64 s.f2, .int .i64 s.f3, .string s.f4] 51))
   have X1 := am (q0h B1.out (.cells #[.int .i64 s.f0, .int .i64 s.f1, .int .i64 s.f2, .int .i64 s.f3, .string s.f4] 51))
   have X2 := am (q0h B2.out (.cells #[.int .i64 s.f0, .int .i64 s.f1, .int .i64 s.f2, .int .i64 s.f3, .string s.f4] 51))
   have X3 := am (Kd.R_alloc H3.out (.cells #[.int .i64 s.f0, .int .i64 s.f1, .int .i64 s.f2, .int .i64 s.f3, .string s.f4] 51))
   have XB := am (q0d HB.out (.cells #[.int .i64 s.f0, .int .i64 s.f1, .int .i64 s.f2, .int .i64 s.f3, .string s.f4] 51))
   have bA : Below wr.heap.size wr (wr.alloc (.cells #[.int .i64 s.f0, .int .i64 s.f1, .int .i64 s.f2, .int .i64 s.f3, .string s.f4] 51)) := q0d (Below.refl _ _) _
   have y0 := (bA.cell (World.block_lt_of_cell? wr _ t0)).trans t0
   have y1 := (bA.cell (World.block_lt_of_cell? wr _ t1)).trans t1
   have y2 := (bA.cell (World.block_lt_of_cell? wr _ t2)).trans t2
   have y3 := (bA.cell (World.block_lt_of_cell? wr _ t3)).trans t3
   have y4 := (bA.cell (World.block_lt_of_cell? wr _ t4)).trans t4
   have GL := am (show g < (wr.alloc (.cells #[.int .i64 s.f0, .int .i64 s.f1, .int .i64 s.f2, .int .i64 s.f3, .string s.f4] 51)).heap.size from by have := bA.size; omega)
   have e9 := am (Kd.own_blk (Kd.R_ne H3.out B1.out (by decide)))
   have f5 := am (Kd.own_blk (Kd.R_ne H3.out B2.out (by decide)))
   clear B1 B2 HB H3 t0 t1 t2 t3 t4 bA
   have B1 := X1
   have B2 := X2
   have B4 := X4
   have HB := XB
   have H3 := X3
   clear X1 X2 X4 XB X3
   have a2 : (wr.alloc (.cells #[.int .i64 s.f0, .int .i64 s.f1, .int .i64 s.f2, .int .i64 s.f3, .string s.f4] 51)).cell? ⟨g1, 4, none⟩ = some (.slice (some ⟨g, 0, none⟩) xs.length c3) := bc B1.out
   have d0 : (wr.alloc (.cells #[.int .i64 s.f0, .int .i64 s.f1, .int .i64 s.f2, .int .i64 s.f3, .string s.f4] 51)).cell? ⟨wr.heap.size, 0, none⟩ = some (.int .i64 s.f0) := bc B4.out
   have d1 : (wr.alloc (.cells #[.int .i64 s.f0, .int .i64 s.f1, .int .i64 s.f2, .int .i64 s.f3, .string s.f4] 51)).cell? ⟨wr.heap.size, 1, none⟩ = some (.int .i64 s.f1) := bc B4.out
   have d2 : (wr.alloc (.cells #[.int .i64 s.f0, .int .i64 s.f1, .int .i64 s.f2, .int .i64 s.f3, .string s.f4] 51)).cell? ⟨wr.heap.size, 2, none⟩ = some (.int .i64 s.f2) := bc B4.out
   have d3 : (wr.alloc (.cells #[.int .i64 s.f0, .int .i64 s.f1, .int .i64 s.f2, .int .i64 s.f3, .string s.f4] 51)).cell? ⟨wr.heap.size, 3, none⟩ = some (.int .i64 s.f3) := bc B4.out
   have d4 : (wr.alloc (.cells #[.int .i64 s.f0, .int .i64 s.f1, .int .i64 s.f2, .int .i64 s.f3, .string s.f4] 51)).cell? ⟨wr.heap.size, 4, none⟩ = some (.string s.f4) := bc B4.out
   generalize wr.alloc (.cells #[.int .i64 s.f0, .int .i64 s.f1, .int .i64 s.f2, .int .i64 s.f3, .string s.f4] 51) = w8 at *
   generalize wr.heap.size = g4 at *
   have HY := am (fun (W : World) (hW : Below w8.heap.size w8 W) (j : Nat) (u : Value) (h : ([.int .i64 s.f0, .int .i64 s.f1, .int .i64 s.f2, .int .i64 s.f3, .string s.f4] : List Value)[j]? = some u) => show W.cell? ⟨g, (q : Int).toNat * 5 + j, none⟩ = some u from by
    rw [Int.toNat_natCast]
    rw [hW.cell GL.out]
    rcases j with _ | _ | _ | _ | _ | j <;> simp at h <;> subst h <;> assumption)
   have a4 := am (fun (W : World) (hW : Below w8.heap.size w8 W) (j : Nat) => show W.frozen? ⟨g, j, none⟩ = false from by
    obtain ⟨g_, f6, e_, _, _, b8, g8⟩ := Kd.R_form (Kd.R_below H3.out hW) (by rw [b5.out]; omega)
    injection e_ with e_
    injection e_ with e_
    injection e_ with e_
    subst e_
    exact q0k g8 j)
   have a8 : w8.cell? ⟨g1, 0, none⟩ = some (.string ky) := bc B1.out
   have a9 : w8.cell? ⟨g1, 1, none⟩ = some (.string nm) := bc B1.out
   have b0 : w8.cell? ⟨g1, 2, none⟩ = some (.slice A1 ts.length c1) := bc B1.out
   have b1 : w8.cell? ⟨g1, 3, none⟩ = some (.int .i64 is) := bc B1.out
   have e4 := am (fun (W : World) (hW : Below w8.heap.size w8 W) => show Calls Try.prog 45 #[.agg (runV ky nm A1 ts.length c1 is (some ⟨g, 0, none⟩) xs.length c3), .int .i64 (q : Int)] W (fun e w' => e = .returned (.bool b) ∧ Below W.heap.size W w') from by
    have g6 := (Kd.R_reads' (Kd.R_below H3.out hW)).2.2
    rw [← b5.out]
    exact ready_calls ky nm A1 c1 ts is (some ⟨g, 0, none⟩) c3 zs (q : Int) b W (Kd.C_below HT.out (q0j HB.out hW)) g6 h5.out)
   have c9 := am (fun (W : World) => X.Gf.calls s.f0 s.f1 s.f2 s.f3 s.f4 _ _ _ _ _ W (readyS_f s))
   have k2 := am (q2h B4.out)
   clear h5 y0 y1 y2 y3 y4 j5
   cases b
   ·
    rw [if_neg (by decide)] at c8
    go_wp2_with (go_at_call 45; refine (e4.out _ (by (with_reducible repeat (first | apply q0d | apply q0m | apply q1l)); exact (Below.refl w8.heap.size w8))).mono ?_; rintro e w9 ⟨rfl, hb⟩; have HZ := am (q0j (by (with_reducible repeat (first | apply q0d | apply q0m | apply q1l)); exact (Below.refl w8.heap.size w8)) hb); clear hb)
    go_roundw
    case rel => exact ⟨q + 1, zn, by go_num, ⟨by omega⟩, h4, ⟨by rw [← c8.out]; exact Kd.R_below H3.out HZ.out⟩, ⟨q0b B1.out HZ.out⟩, ⟨q0b B2.out HZ.out⟩, ⟨q0j HB.out HZ.out⟩⟩
    case measure => exact meas51 _ _ _ EW b2
   rw [if_pos rfl] at c8
   go_upto_region 14 with (go_at_call 45; refine (e4.out _ (by (with_reducible repeat (first | apply q0d | apply q0m | apply q1l)); exact (Below.refl w8.heap.size w8))).mono ?_; rintro e w9 ⟨rfl, hb⟩; have b4 := am (q0j (by (with_reducible repeat (first | apply q0d | apply q0m | apply q1l)); exact (Below.refl w8.heap.size w8)) hb); clear hb d0 d1 d2 d3 d4 a8 a9 b0 b1 a2; have a2 : w9.cell? ⟨g1, 4, none⟩ = some (.slice (some ⟨g, 0, none⟩) xs.length c3) := (q0i (q0b B1.out b4.out) 4).trans rfl; have d0 : w9.cell? ⟨g4, 0, none⟩ = some (.int .i64 s.f0) := (q0i (q0b B4.out b4.out) 0).trans rfl; have d1 : w9.cell? ⟨g4, 1, none⟩ = some (.int .i64 s.f1) := (q0i (q0b B4.out b4.out) 1).trans rfl; have d2 : w9.cell? ⟨g4, 2, none⟩ = some (.int .i64 s.f2) := (q0i (q0b B4.out b4.out) 2).trans rfl; have d3 : w9.cell? ⟨g4, 3, none⟩ = some (.int .i64 s.f3) := (q0i (q0b B4.out b4.out) 3).trans rfl; have d4 : w9.cell? ⟨g4, 4, none⟩ = some (.string s.f4) := (q0i (q0b B4.out b4.out) 4).trans rfl)
   clear e4
   go_region_with (go_at_call 72; refine (c9.out _).mono ?_; rintro e c6 ⟨rfl, hb⟩; have HZ := am (q0j (by (with_reducible repeat (first | apply q0d | apply q0m | apply q1l)); exact b4.out) hb); have z0 := HY.out _ HZ.out 0 _ rfl; have z1 := HY.out _ HZ.out 1 _ rfl; have z2 := HY.out _ HZ.out 2 _ rfl; have z3 := HY.out _ HZ.out 3 _ rfl; have z4 := HY.out _ HZ.out 4 _ rfl; rw [Int.toNat_natCast] at z0 z1 z2 z3 z4; rw [Nat.add_zero] at z0; have f8 := a4.out _ HZ.out (q * 5); have f9 := a4.out _ HZ.out (q * 5 + 1); have g0 := a4.out _ HZ.out (q * 5 + 2); have g3 := a4.out _ HZ.out (q * 5 + 3); have g5 := a4.out _ HZ.out (q * 5 + 4); have b6 : c6.cell? ⟨g1, 4, none⟩ = some (.slice (some ⟨g, 0, none⟩) xs.length c3) := (q0i (q0b B1.out HZ.out) 4).trans rfl; clear hb)
   all_goals
    have X1 := am (show (St5 c6 g (q * 5) (q2e s)).heap[g1]? = some (.cells (#[.string ky, .string nm, .slice A1 ts.length c1, .int .i64 is, .slice (some ⟨g, 0, none⟩) xs.length c3] : Array Value) 27 (0, 0)) from q3i _ _ _ _ _ _ _ (q0b B1.out HZ.out) e9.out.symm)
    have X2 := am (show (St5 c6 g (q * 5) (q2e s)).heap[g2]? = some (.cells (#[.string (⟨#[]⟩ : ByteArray), .string (⟨#[]⟩ : ByteArray), .slice none 0 0, .int .i64 0, .slice none 0 0] : Array Value) 27 (0, 0)) from q3i _ _ _ _ _ _ _ (q0b B2.out HZ.out) f5.out.symm)
    have X3 := am (show Kd.R k51 51 (St5 c6 g (q * 5) (q2e s)) w.heap.size (fun _ => True) (.slice (some ⟨g, 0, none⟩) xs.length c3) (zs.set q (q2e s)) from by exact put51 _ _ _ _ _ _ _ (Kd.R_below H3.out HZ.out) q b2 _)
    have XB := am (show Below w.heap.size w (St5 c6 g (q * 5) (q2e s)) from q3t _ _ _ _ _ (q0j HB.out HZ.out) h0)
    clear B1 B2 HB H3 HZ HY a4 c9 z0 z1 z2 z3 z4 f8 f9 g0 g3 g5 b6 a2 d0 d1 d2 d3 d4
    unfold St5 at X1 X2 X3 XB
    generalize ((((c6.setCell ⟨g, q * 5, none⟩ (.int .i64 (q2e s).f0)).setCell ⟨g, q * 5 + 1, none⟩ (.int .i64 (q2e s).f1)).setCell ⟨g, q * 5 + 2, none⟩ (.int .i64 (q2e s).f2)).setCell ⟨g, q * 5 + 3, none⟩ (.int .i64 (q2e s).f3)).setCell ⟨g, q * 5 + 4, none⟩ (.string (q2e s).f4) = k1 at *
    go_wp2
    go_roundw
    case rel => exact ⟨q + 1, zn, by go_num, ⟨by omega⟩, h4, ⟨by rw [← c8.out]; exact X3.out⟩, ⟨X1.out⟩, ⟨X2.out⟩, ⟨XB.out⟩⟩
    case measure => exact meas51 _ _ _ EW b2
  obtain rfl : q = xs.length := by have := HQ.out; omega
  have ez := Option.some.inj (c7.out.symm.trans e2.out)
  subst ez
  have b9 := e5.out
  have a8 : wr.cell? ⟨g1, 0, none⟩ = some (.string ky) := bc B1.out
  have a9 : wr.cell? ⟨g1, 1, none⟩ = some (.string nm) := bc B1.out
  have b0 : wr.cell? ⟨g1, 2, none⟩ = some (.slice A1 ts.length c1) := bc B1.out
  have b1 : wr.cell? ⟨g1, 3, none⟩ = some (.int .i64 is) := bc B1.out
  have a2 : wr.cell? ⟨g1, 4, none⟩ = some (.slice A3 xs.length c3) := bc B1.out
  have h3 := am (show Calls Try.prog 46 #[.agg (runV ky nm A1 ts.length c1 is A3 xs.length c3), .slice (some ⟨wr.drew.heap.size, 0, none⟩) 1 1] (wr.alloc (.cells #[Value.int .i64 3] 3)).drew (fun e w' => e = .returned (.int .i64 (cntI [3] (upto zs zs.length))) ∧ Below (wr.alloc (.cells #[Value.int .i64 3] 3)).drew.heap.size (wr.alloc (.cells #[Value.int .i64 3] 3)).drew w') from by
   have g6 := (Kd.R_reads' H3.out).2.2
   rw [← b5.out]
   exact count_in ky nm A1 ts.length c1 is A3 c3 zs (some ⟨wr.heap.size, 0, none⟩) 1 [3] _ (Kd.C_drew (Kd.C_alloc g6 _)) (by rw [b5.out]; exact HL.out) (Kd.C_drew (lit_C wr [3] (by simp))) (by simp) (by simp))
  by_cases a7 : cntI [3] (upto zs zs.length) = (xs.length : Int)
  ·
   rw [if_pos (show cntI [3] (upto zs zs.length) = (zs.length : Int) from by rw [a7, b5.out])] at b9
   obtain ⟨rfl, rfl⟩ : 1 = is' ∧ zs = ys := by simpa using b9
   clear b9 e5 HM e2 c7
   have EQ := decide_eq_true a7
   go_upto_region 16 with fail
   refine q2i (n := 7) (S := fun w' => w'.cell? ⟨g1, 0, none⟩ = some (.string ky) ∧ w'.cell? ⟨g1, 1, none⟩ = some (.string nm) ∧ w'.cell? ⟨g1, 2, none⟩ = some (.slice A1 ts.length c1) ∧ w'.cell? ⟨g1, 3, none⟩ = some (.int .i64 is) ∧ w'.cell? ⟨g1, 4, none⟩ = some (.slice A3 xs.length c3)) (ds := []) (ba 7 0) (by kernel_rfl) rfl rfl ⟨((q0i (q0g B1.out) 0).trans rfl), ((q0i (q0g B1.out) 1).trans rfl), ((q0i (q0g B1.out) 2).trans rfl), ((q0i (q0g B1.out) 3).trans rfl), ((q0i (q0g B1.out) 4).trans rfl)⟩ (fun a0 => ?_)
   refine ph 3 53 (ba 7 8) ?_
   refine th 0 50 (ba 7 9) a0 ?_
   refine th 4 54 (ba 7 25) a0 ?_
   refine ph 5 55 (ba 7 57) ?_
   refine oh 1 51 (ba 7 59) fun K hK => ?_
   refine value_ (w1 := ?_) (v := ?_) (by rfl) rfl ?_ ?_
   rotate_left 2
   ·
    go_simp
    constructor
    ·
     rfl
    rfl
   refine hK.out _ _ ⟨((q0i (q0g (q0h B1.out _)) 0).trans rfl), ((q0i (q0g (q0h B1.out _)) 1).trans rfl), ((q0i (q0g (q0h B1.out _)) 2).trans rfl), ((q0i (q0g (q0h B1.out _)) 3).trans rfl), ((q0i (q0g (q0h B1.out _)) 4).trans rfl)⟩ (fun a0 => ?_)
   clear hK K
   refine nh ?_
   refine oh 2 52 (ba 7 63) fun K hK => ?_
   refine q2c Try.func46 (by kernel_rfl) rfl #[.agg (runV ky nm A1 ts.length c1 is A3 xs.length c3), .slice (some ⟨wr.drew.heap.size, 0, none⟩) 1 1] (by rfl) rfl rfl (by simp only [List.map_toArray, List.map_cons, List.map_nil]; rfl) ?_
   with_reducible refine (h3.out).mono ?_
   rintro e w5 ⟨rfl, hb⟩
   refine ⟨_, rfl, ?_⟩
   have a1 := am (q0j (q0a (q0d (Below.refl wr.heap.size wr) _)) hb)
   clear hb
   refine hK.out _ _ ⟨((q0i (q0b B1.out a1.out) 0).trans rfl), ((q0i (q0b B1.out a1.out) 1).trans rfl), ((q0i (q0b B1.out a1.out) 2).trans rfl), ((q0i (q0b B1.out a1.out) 3).trans rfl), ((q0i (q0b B1.out a1.out) 4).trans rfl)⟩ (fun a0 => ?_)
   clear hK K
   refine nh ?_
   refine ph 6 56 (ba 7 127) ?_
   refine q2a (by kernel_rfl) ?_
   have C1 := q0b B1.out a1.out
   have C2 := q0b B2.out a1.out
   have a8 : w5.cell? ⟨g1, 0, none⟩ = some (.string ky) := bc C1
   have a9 : w5.cell? ⟨g1, 1, none⟩ = some (.string nm) := bc C1
   have b0 : w5.cell? ⟨g1, 2, none⟩ = some (.slice A1 ts.length c1) := bc C1
   have b1 : w5.cell? ⟨g1, 3, none⟩ = some (.int .i64 is) := bc C1
   have a2 : w5.cell? ⟨g1, 4, none⟩ = some (.slice A3 xs.length c3) := bc C1
   have i1 := q0k C1 3
   have h6 : w5.cell? ⟨g2, 0, none⟩ = some (.string (⟨#[]⟩ : ByteArray)) := bc C2
   have h7 : w5.cell? ⟨g2, 1, none⟩ = some (.string (⟨#[]⟩ : ByteArray)) := bc C2
   have h8 : w5.cell? ⟨g2, 2, none⟩ = some (.slice none 0 0) := bc C2
   have h9 : w5.cell? ⟨g2, 3, none⟩ = some (.int .i64 0) := bc C2
   have i0 : w5.cell? ⟨g2, 4, none⟩ = some (.slice none 0 0) := bc C2
   have i2 := q0k C2 0
   have i3 := q0k C2 1
   have i4 := q0k C2 2
   have i5 := q0k C2 3
   have i6 := q0k C2 4
   have j0 := a6.out
   have j1 := a6.out.symm
   clear C1 C2
   go_wp2
   have Y1 := q0o (cs := (#[.string ky, .string nm, .slice A1 ts.length c1, .int .i64 is, .slice A3 xs.length c3] : Array Value)) (cs' := (#[.string ky, .string nm, .slice A1 ts.length c1, .int .i64 1, .slice A3 xs.length c3] : Array Value)) (q0b B1.out a1.out) 3 (.int .i64 1) rfl
   have Y2 := q0l (q0b B2.out a1.out) a6.out.symm (p := ⟨g1, 3, none⟩) (.int .i64 1)
   obtain ⟨d5, d6, d7⟩ := fin27 w _ g2 _ _ _ _ _ (.string ky) (.string nm) (.slice A1 ts.length c1) (.int .i64 1) (.slice A3 xs.length c3) zs (.slice A3 xs.length c3) Y2 G2.out (q0n (q0j HB.out a1.out) G1.out) (Kd.R_set (Kd.R_below H3.out a1.out) (q0b B1.out a1.out) (by decide) 3 _)
   refine bodyPost_ret (q3k rfl (.cell g2 27 (#[.string ky, .string nm, .slice A1 ts.length c1, .int .i64 1, .slice A3 xs.length c3] : Array Value) (0, 0) _ rfl d5 Try.underlying27 rfl (by kernel_rfl) .nil)) rfl ?_
   exact ⟨_, rfl, d6, d7⟩
  rw [if_neg (show ¬ cntI [3] (upto zs zs.length) = (zs.length : Int) from fun h_ => a7 (h_.trans (by rw [b5.out])))] at b9
  obtain ⟨rfl, rfl⟩ : is = is' ∧ zs = ys := by simpa using b9
  clear b9 e5 HM e2 c7
  have EQ := decide_eq_false a7
  go_upto_region 16 with fail
  refine q2i (n := 7) (S := fun w' => w'.cell? ⟨g1, 0, none⟩ = some (.string ky) ∧ w'.cell? ⟨g1, 1, none⟩ = some (.string nm) ∧ w'.cell? ⟨g1, 2, none⟩ = some (.slice A1 ts.length c1) ∧ w'.cell? ⟨g1, 3, none⟩ = some (.int .i64 is) ∧ w'.cell? ⟨g1, 4, none⟩ = some (.slice A3 xs.length c3)) (ds := []) (ba 7 0) (by kernel_rfl) rfl rfl ⟨((q0i (q0g B1.out) 0).trans rfl), ((q0i (q0g B1.out) 1).trans rfl), ((q0i (q0g B1.out) 2).trans rfl), ((q0i (q0g B1.out) 3).trans rfl), ((q0i (q0g B1.out) 4).trans rfl)⟩ (fun a0 => ?_)
  refine ph 3 53 (ba 7 8) ?_
  refine th 0 50 (ba 7 9) a0 ?_
  refine th 4 54 (ba 7 25) a0 ?_
  refine ph 5 55 (ba 7 57) ?_
  refine oh 1 51 (ba 7 59) fun K hK => ?_
  refine value_ (w1 := ?_) (v := ?_) (by rfl) rfl ?_ ?_
  rotate_left 2
  ·
   go_simp
   constructor
   ·
    rfl
   rfl
  refine hK.out _ _ ⟨((q0i (q0g (q0h B1.out _)) 0).trans rfl), ((q0i (q0g (q0h B1.out _)) 1).trans rfl), ((q0i (q0g (q0h B1.out _)) 2).trans rfl), ((q0i (q0g (q0h B1.out _)) 3).trans rfl), ((q0i (q0g (q0h B1.out _)) 4).trans rfl)⟩ (fun a0 => ?_)
  clear hK K
  refine nh ?_
  refine oh 2 52 (ba 7 63) fun K hK => ?_
  refine q2c Try.func46 (by kernel_rfl) rfl #[.agg (runV ky nm A1 ts.length c1 is A3 xs.length c3), .slice (some ⟨wr.drew.heap.size, 0, none⟩) 1 1] (by rfl) rfl rfl (by simp only [List.map_toArray, List.map_cons, List.map_nil]; rfl) ?_
  with_reducible refine (h3.out).mono ?_
  rintro e w5 ⟨rfl, hb⟩
  refine ⟨_, rfl, ?_⟩
  have a1 := am (q0j (q0a (q0d (Below.refl wr.heap.size wr) _)) hb)
  clear hb
  refine hK.out _ _ ⟨((q0i (q0b B1.out a1.out) 0).trans rfl), ((q0i (q0b B1.out a1.out) 1).trans rfl), ((q0i (q0b B1.out a1.out) 2).trans rfl), ((q0i (q0b B1.out a1.out) 3).trans rfl), ((q0i (q0b B1.out a1.out) 4).trans rfl)⟩ (fun a0 => ?_)
  clear hK K
  refine nh ?_
  refine ph 6 56 (ba 7 127) ?_
  refine q2a (by kernel_rfl) ?_
  have C1 := q0b B1.out a1.out
  have C2 := q0b B2.out a1.out
  have a8 : w5.cell? ⟨g1, 0, none⟩ = some (.string ky) := bc C1
  have a9 : w5.cell? ⟨g1, 1, none⟩ = some (.string nm) := bc C1
  have b0 : w5.cell? ⟨g1, 2, none⟩ = some (.slice A1 ts.length c1) := bc C1
  have b1 : w5.cell? ⟨g1, 3, none⟩ = some (.int .i64 is) := bc C1
  have a2 : w5.cell? ⟨g1, 4, none⟩ = some (.slice A3 xs.length c3) := bc C1
  have i1 := q0k C1 3
  have h6 : w5.cell? ⟨g2, 0, none⟩ = some (.string (⟨#[]⟩ : ByteArray)) := bc C2
  have h7 : w5.cell? ⟨g2, 1, none⟩ = some (.string (⟨#[]⟩ : ByteArray)) := bc C2
  have h8 : w5.cell? ⟨g2, 2, none⟩ = some (.slice none 0 0) := bc C2
  have h9 : w5.cell? ⟨g2, 3, none⟩ = some (.int .i64 0) := bc C2
  have i0 : w5.cell? ⟨g2, 4, none⟩ = some (.slice none 0 0) := bc C2
  have i2 := q0k C2 0
  have i3 := q0k C2 1
  have i4 := q0k C2 2
  have i5 := q0k C2 3
  have i6 := q0k C2 4
  have j0 := a6.out
  have j1 := a6.out.symm
  clear C1 C2
  go_wp2
  obtain ⟨d5, d6, d7⟩ := fin27 w _ g2 _ _ _ _ _ (.string ky) (.string nm) (.slice A1 ts.length c1) (.int .i64 is) (.slice A3 xs.length c3) zs (.slice A3 xs.length c3) (q0b B2.out a1.out) G2.out (q0j HB.out a1.out) (Kd.R_below H3.out a1.out)
  refine bodyPost_ret (q3k rfl (.cell g2 27 (#[.string ky, .string nm, .slice A1 ts.length c1, .int .i64 is, .slice A3 xs.length c3] : Array Value) (0, 0) _ rfl d5 Try.underlying27 rfl (by kernel_rfl) .nil)) rfl ?_
  exact ⟨_, rfl, d6, d7⟩
end Go.Proofs.Ytabmkighhmchmaa
namespace Go.Proofs.Ytabmkighhmchmaa
open Go.RowKit Go.Shelf Go.YW.PrintWords Go.YW.PrintLast Go.YW.PrintMore Go.YW.Sq
open X (S49 S51 k49 k51 q0c q1u z51)
set_option linter.unusedVariables false
set_option linter.unusedSimpArgs false
attribute [local go_sem] Oper.semAt_some
def encF (xs : List S51) (x : Fin xs.length) : Array Value := #[.int .i64 ((x.val : Nat) : Int), .agg #[.int .i64 (q0c xs (x.val : Int)).f0, .int .i64 (q0c xs (x.val : Int)).f1, .int .i64 (q0c xs (x.val : Int)).f2, .int .i64 (q0c xs (x.val : Int)).f3, .string (q0c xs (x.val : Int)).f4]]
def uptoF (xs : List S51) (k : Nat) : List (Fin xs.length) := (List.finRange xs.length).take k
theorem uptoF_succ (xs : List S51) (k : Nat) (h : k < xs.length) : uptoF xs (k + 1) = uptoF xs k ++ [⟨k, h⟩] := by
 unfold uptoF
 rw [List.take_succ_eq_append_getElem (by simpa using h)]
 simp
theorem uptoF_length (xs : List S51) (k : Nat) (h : k ≤ xs.length) : (uptoF xs k).length = k := by simp [uptoF, h]
theorem uptoF_zero (xs : List S51) : uptoF xs 0 = [] := by simp [uptoF]
theorem uptoF_all (xs : List S51) : uptoF xs xs.length = List.finRange xs.length := by unfold uptoF; exact List.take_of_length_le (by simp)
set_option maxRecDepth 100000 in
set_option maxHeartbeats 4000000 in
theorem each1F (n : Nat) (hn : 1 ≤ n) (l gb : Nat) (ky nm : ByteArray) (A1 : Option Addr) (n1 c1 : Nat) (is : Int) (A2 : Option Addr) (c2 : Nat) (xs : List S51) (w0 : World) (hC : Kd.C k51 w0 A2 xs.length xs) (hl : xs.length ≤ 1000000) (J Jx : List (Fin xs.length) → World → Prop)
  (hJ : ∀ s W W', J s W → Below W.heap.size W W' → J s W')
  (hY : ∀ a0 x W, J a0 W → a0.length < xs.length → YieldAt Fence.wide (n - 1) Try.prog l (encF xs x) W fun e W' =>
   (e = .returned (.bool true) ∧ J (a0 ++ [x]) W' ∧ Below w0.heap.size W W') ∨ (e = .returned (.bool false) ∧ Jx (a0 ++ [x]) W'))
  (W : World) (a6 : Below w0.heap.size w0 W) (a7 : W.heap[gb]? = some (.cells (runV ky nm A1 n1 c1 is A2 xs.length c2) 27 (0, 0))) (h0 : J [] W) :
  CallsIn Fence.wide n Try.prog 78 #[.func (.yield l) #[] #[], .pointer (some ⟨gb, 0, none⟩)] W fun e W' => (∃ v, e = .returned v) ∧
   ((∃ ys, ys = uptoF xs xs.length ∧ J ys W') ∨ (∃ a0, (∃ k, k ≤ xs.length ∧ a0 = uptoF xs k) ∧ Jx a0 W')) := by
 have b4 := Try.underlying27
 have b5 := Try.underlying51
 have g4 : W.cell? ⟨gb, 4, none⟩ = some (.slice A2 xs.length c2) := bc a7
 have HW := am a6
 have HC := am hC
 have HL := am hl
 have HJ := am hJ
 have HY := am hY
 clear a6 hC hl hJ hY a7
 refine callsIn_of_wp Try.func78 rfl trivial ?_ rfl
 simp only [Try.ntmps78, List.size_toArray, List.length_cons, List.length_nil, Nat.reduceAdd, Nat.reduceSub, Array.replicate_succ, Array.replicate_zero, List.push_toArray, List.append_toArray, List.nil_append, List.cons_append]
 gi_wp2
 gi_loopw [8] (fun i wr => ∃ k : Nat, k ≤ xs.length ∧ i = .int .i64 k ∧ q0f (J (uptoF xs k) wr) ∧ q0f (Below w0.heap.size w0 wr))
  (fun i _ => xs.length - (intOf i).toNat)
 case atStart => exact ⟨0, Nat.zero_le _, rfl, ⟨by rw [uptoF_zero]; exact h0⟩, HW⟩
 case round =>
  obtain ⟨k, hk, rfl, a4, HB⟩ := hrel
  by_cases a1 : k < xs.length
  ·
   obtain ⟨ad, rfl, b6, b7, b8, b9, c6⟩ := q1u (Kd.C_below HC.out HB.out) (k : Int) (by omega) (by omega)
   rw [Int.toNat_natCast] at b6 b7 b8 b9 c6
   obtain ⟨fn, tmps, a2, b2, hy, hR⟩ := HY.out _ ⟨k, a1⟩ (wr.alloc (.cells #[.int .i64 (q0c xs (k : Int)).f0, .int .i64 (q0c xs (k : Int)).f1, .int .i64 (q0c xs (k : Int)).f2, .int .i64 (q0c xs (k : Int)).f3, .string (q0c xs (k : Int)).f4] 51)) (HJ.out _ _ _ a4.out (q0d (Below.refl _ _) _)) (by rw [uptoF_length _ _ hk]; exact a1)
   dsimp only [encF] at hy
   have a9 := am (q0d HB.out (.cells #[.int .i64 (q0c xs (k : Int)).f0, .int .i64 (q0c xs (k : Int)).f1, .int .i64 (q0c xs (k : Int)).f2, .int .i64 (q0c xs (k : Int)).f3, .string (q0c xs (k : Int)).f4] 51))
   have b3 := HL.out
   gi_wp2
   refine hR.mono ?_
   rintro e W3 (⟨rfl, a5, a8⟩ | ⟨rfl, a3⟩)
   ·
    have b1 := am a5
    have b0 := am (a9.out.trans a8)
    clear a5 a8
    gi_wp2
    go_roundw
    case rel => exact ⟨k + 1, by omega, by go_num, ⟨by rw [uptoF_succ _ _ a1]; exact b1.out⟩, b0⟩
    case measure => simp [intOf]; omega
   gi_wp2
   refine bodyPost_ret (results_none rfl _ _ _) rfl ?_
   exact ⟨⟨_, rfl⟩, .inr ⟨_, ⟨k + 1, by omega, (uptoF_succ _ _ a1).symm⟩, a3⟩⟩
  obtain rfl : k = xs.length := by omega
  gi_wp2
  go_end0
  exact ⟨⟨_, rfl⟩, .inl ⟨_, rfl, a4.out⟩⟩
theorem q5d (n : Nat) (hn : 1 ≤ n) (gb : Nat) (ky nm : ByteArray) (A1 : Option Addr) (n1 c1 : Nat) (is : Int) (A2 : Option Addr) (c2 : Nat) (xs : List S51) (w0 w : World) (hC : Kd.C k51 w0 A2 xs.length xs) (hl : xs.length ≤ 1000000) (a0 : Below w0.heap.size w0 w)
  (a1 : w.heap[gb]? = some (.cells (runV ky nm A1 n1 c1 is A2 xs.length c2) 27 (0, 0))) :
  SeqStopsK Fence.wide n Try.prog 78 #[.pointer (some ⟨gb, 0, none⟩)] (encF xs) (Below w0.heap.size) (fun ys => ys = uptoF xs xs.length) (fun a2 => ∃ k, k ≤ xs.length ∧ a2 = uptoF xs k) xs.length w := fun l J Jx W hW hJ _ hY h0 =>
 each1F n hn l gb ky nm A1 n1 c1 is A2 c2 xs w0 hC hl J Jx (fun s X X' hs hb => hJ s X X' none hs (q4m hb none) (fun r e => by cases e)) hY W (q0j a0 hW) (q0b a1 hW) h0
end Go.Proofs.Ytabmkighhmchmaa
namespace Go.Proofs.Ytabmkighhmchmaa
open Go.RowKit Go.YW.PrintWords Go.YW.PrintLast
section
variable {P : Program} {ops : Array Oper} {Q : Exit → Act → World → Prop} {md : Region.Mode} {S : World → Prop} {ds : List Nat}
theorem wp_in (l n : Nat) {o : Oper} {a : Act} {w : World} {K : Act → World → Prop} (hd : ∀ c, o.op ≠ .defer c) (h : o.wp P a w K Q) : o.wpIn (Fence.wide.inRound l) n P a w K Q := by
 refine ⟨fun _ _ => trivial, ?_⟩
 unfold Oper.wp at h
 rw [Oper.semAt_eq _ _ _ hd]
 generalize (execOp a.eval o).run P w = r at *
 cases r with
 | ok x w' =>
  cases x <;> simp only [Oper.upon, Oper.uponIn] at h ⊢ <;>
   first
    | exact h
    | exact ⟨fun h => (by cases h), CallsIn.inRound l (callsIn_wide.2 h)⟩
    | exact ⟨fun h => (by cases h), fun c cs hc => by obtain ⟨v, w2, hr, hs⟩ := h c cs; exact ⟨v, w2, hr, stepsIn_wide.2 hs⟩⟩
 | halt x w' => cases x <;> simp only [Oper.upon, Oper.uponIn] at h ⊢ <;> exact h
theorem wpOp_in (l n : Nat) (hN : ¬ LetsOut Q) (hd : ∀ (j : Nat) o, ops[j]? = some o → ∀ c, o.op ≠ .defer c) {i : Nat} {a : Act} {w : World} {K K' : Act → World → Prop} (hK : ∀ a w, K a w → K' a w) (h : wpOp P ops Q i K a w) : wpOpIn (Fence.wide.inRound l) n P ops Q i K' a w := by
 unfold wpOp at h
 unfold wpOpIn
 split
 ·
  rename_i ho
  rw [ho] at h
  exact hK _ _ h
 rename_i o ho
 rw [ho] at h
 simp only [] at h
 split
 ·
  rename_i hw
  rw [if_pos hw] at h
  rcases h with h | ⟨_, h⟩
  ·
   exact Oper.wpIn_mono hK (wp_in l n (hd i o ho) h)
  exact (hN h).elim
 rename_i hw
 rw [if_neg hw] at h
 exact ⟨fun _ _ => trivial, hK _ _ h⟩
theorem wpAny_in (l n : Nat) (hN : ¬ LetsOut Q) (hd : ∀ (j : Nat) o, ops[j]? = some o → ∀ c, o.op ≠ .defer c) : ∀ (a1 : Nat) (a0 : Array Bool) (a : Act) (w : World), wpAny P md ops Q a1 a0 a w → wpAnyIn (Fence.wide.inRound l) n P md ops Q a1 a0 a w := by
 intro a1
 induction a1 with
 | zero => intro a0 a w h; exact h
 | succ a1 ih => intro a0 a w h; exact ⟨h.1, fun i hi => wpOp_in l n hN hd (ih _) (h.2 i hi)⟩
def noDefer (a0 : Array Oper) : Bool := a0.toList.all fun o => match o.op with | .defer _ => false | _ => true
theorem noDefer_of (h : noDefer ops = true) : ∀ (j : Nat) o, ops[j]? = some o → ∀ c, o.op ≠ .defer c := by
 intro j o ho c hc
 have h1 := List.all_eq_true.1 h o (by rw [Array.mem_toList_iff]; exact Array.mem_of_getElem? ho)
 rw [hc] at h1
 cases h1
theorem q1v {id n l dp : Nat} {a : Act} {w : World} (l' : Array Bool) (hm : P.follows .mixedOrders = true) (hn : ops.size = n) (hl : Array.replicate n false = l') (hS : S w.drew) (hN : ¬ LetsOut Q) (hd : noDefer ops = true)
  (h : S w.drew → q0q P .any ops Q S ds n l' a w.drew) : (Code.region id ops true).wpIn (Fence.wide.inRound l) dp P Q a w := by
 subst hn
 subst hl
 exact wpIn_region_any hm (wpAny_in l dp hN (noDefer_of hd) _ _ _ _ (q4u _ _ _ _ (h hS)))
end
end Go.Proofs.Ytabmkighhmchmaa
namespace Go.Proofs.Ytabmkighhmchmaa.X
open Go.RowKit Go.YW.PrintWords Go.YW.PrintLast Go.YW.PrintMore Go.YW.Sq
attribute [local go_sem] q0y q0w q1g q1f q0t q0s q0x q0v
set_option linter.unusedVariables false
set_option linter.unusedSimpArgs false
def Fo.l0 : Nat → Int → List Int → Int → Int → Option (Int)
 | 0, _, _, _, _ => none
 | k + 1, x5, a1, a2, a0 => if a0 < a2 then (if 0 ≤ a0 then (if a0 < (a1.length : Int) then (Fo.l0 k (mn (wrap64 (x5 + (mn (mx (rd a1 a0) 0) 1099511627776))) 1099511627776) a1 a2 (wrap64 (a0 + 1))) else (none)) else (none)) else (some x5)
def Fo.f (k : Nat) (a0 : Int) (l1 : List Int) : Option (Int) := (some (([a0] : List Int) : List Int)).bind fun a1 => (if a1.length + l1.length < 17592186044416 then ((some (a1 ++ l1 : List Int)).bind fun a2 => (Fo.l0 k 0 a2 (a2.length : Int) 0)) else (none))
set_option maxHeartbeats 8000000 in
set_option maxRecDepth 100000 in
theorem Fo.calls (k : Nat) (a0 : Int) (A1 : Option Addr) (c1 : Nat) (l1 : List Int) (r : Int) (w : World) (d5 : Kd.C (Kd.int .i64) w A1 l1.length l1) (d4 : l1.length ≤ c1) (h : Fo.f k a0 l1 = some r) :
  Calls Try.prog 75 #[.int .i64 a0, .slice A1 l1.length c1] w fun e w' => e = .returned (.int .i64 r) ∧ Below w.heap.size w w' := by
 have d7 := am d5
 have e5 := am d4
 clear d5 d4
 have HB := am (Below.refl w.heap.size w)
 unfold Fo.f at h
 have H := h
 clear h
 obtain ⟨y956, hy956⟩ : ∃ y_ : List Int, y_ = (([a0] : List Int)) := ⟨_, rfl⟩
 replace H : (if y956.length + l1.length < 17592186044416 then ((some (y956 ++ l1 : List Int)).bind fun a2 => (Fo.l0 k 0 a2 (a2.length : Int) 0)) else (none)) = some r := by first | (rw [hy956]; with_reducible exact H) | (have a8 := (Option.bind_some _ _).symm.trans H; rw [hy956]; with_reducible exact a8) | (have a8 := (Option.bind_some _ _).symm.trans H; with_reducible exact a8) | with_reducible exact H | (rw [hy956]; exact H) | exact H
 have a7 := am hy956
 clear hy956
 by_cases c3 : y956.length + l1.length < 17592186044416
 ·
  rw [if_pos c3] at H
  have b6 := am c3
  clear c3
  obtain ⟨a2, hy959⟩ : ∃ y_ : List Int, y_ = (y956 ++ l1) := ⟨_, rfl⟩
  replace H : (Fo.l0 k 0 a2 (a2.length : Int) 0) = some r := by first | (rw [hy959]; with_reducible exact H) | (have a8 := (Option.bind_some _ _).symm.trans H; rw [hy959]; with_reducible exact a8) | (have a8 := (Option.bind_some _ _).symm.trans H; with_reducible exact a8) | with_reducible exact H | (rw [hy959]; exact H) | exact H
  have b1 := am hy959
  clear hy959
  have H' := am H
  clear H
  go_enter Try.func75, Try.ntmps75
  go_wp2_with (first | ((with_reducible refine gD 9 ?_); refine Kd.R_lit (Kd.int .i64) _ 3 ?hg (N := 9) ?hd (xs := ([a0] : List Int)) (inner := [.int .i64 a0]) (ok := fun _ => True) (okp := fun _ => True) ?hr ?hp (fun _ hk => hk) trivial (Below.refl _ _) (Nat.le_refl _) (by simp) ?_; (case hd => rfl); (case hg => rfl); (case hr => first | (go_simp; done) | (go_simp; rfl)); (case hp => exact (Reps.one (show Kd.M (Kd.int .i64) _ _ _ a0 [.int .i64 a0] from rfl) (Reps.none _ _))); intro d0 w4 b3 hb e2 b2; clear e2 b2; (first | rw [← a7.out] at b3 | (simp only [Int.reduceToNat] at b3; rw [← a7.out] at b3)); have a4 := am (Kd.R_lower b3 (q0p (pB HB.out))); replace HB := bS HB hb; clear hb b3) | ((with_reducible refine q3o (b := .append) (xs := #[.tmp 9, .tmp 10]) rfl ?_); at_builtin; refine Kd.R_append_rows (Kd.int .i64) (w0 := w) w.heap.size rfl (.tmp 9) (.tmp 10) 47 3 (.int .i64 0) 8 rfl Try.underlying47 info3 rfl (by decide) (by omega) d0 y956 l1 _ _ _ (fun _ => True) (fun _ => False) rfl rfl ?aO ?aR (fun _ _ h => h) (fun _ h => h.elim) ?aF ?aB ?aS ?aL ?_; (case aR => exact (Kd.C_below d7.out (pB HB.out))); (case aB => exact (pB HB.out)); (case aF => exact (fun _ _ => trivial)); (case aO => exact (pR a4.out)); (case aS => exact (q0p (pB HB.out))); (case aL => have := b6.out; omega); intro e4 w6 ho hb hg e1; rw [← b1.out] at ho; replace HB := am (hb); have a5 := am (ho); clear a4 ho hb hg e1; obtain ⟨d6, d9, e0⟩ := Kd.R_slice a5.out; subst e0))
  go_loopg [5, 13] k (fun kq v5 e3 w' => ∃ (a3 : Int) (a1 : Int), v5 = .int .i64 a3 ∧ e3 = .int .i64 a1 ∧ q0f (Fo.l0 kq a3 a2 (a2.length : Int) a1 = some r) ∧ q0f (kq ≤ k) ∧ q0f (Kd.R (Kd.int .i64) 3 w' w.heap.size (fun _ => True) (.slice d6 a2.length d9) a2) ∧ q0f (Below w.heap.size w w'))
  case atStart => exact ⟨(0), (0), el, el, H', ⟨Nat.le_refl _⟩, ⟨(pR a5.out)⟩, ⟨pB HB.out⟩⟩
  case round =>
   clear H'
   try clear c1
   try clear c3
   try clear HB
   obtain ⟨a3, a1, rfl, rfl, HA, d1, a6, HB⟩ := hrel
   cases gk with
   | zero => exact absurd HA.out (by simp [Fo.l0])
   | succ k1 =>
    have H := HA.out
    clear HA
    simp only [Fo.l0] at H
    by_cases c8 : a1 < (a2.length : Int)
    ·
     rw [if_pos c8] at H
     have b7 := decide_eq_true c8
     clear c8
     by_cases c9 : 0 ≤ a1
     ·
      rw [if_pos c9] at H
      have d8 := decide_eq_true c9
      clear c9
      by_cases b4 : a1 < (a2.length : Int)
      ·
       rw [if_pos b4] at H
       have d3 := decide_eq_true b4
       clear b4
       obtain ⟨ji11, hji11⟩ : ∃ j_ : Int, (mx (rd a2 a1) 0) = j_ := ⟨_, rfl⟩
       replace H : (Fo.l0 k1 (mn (wrap64 (a3 + (mn (ji11) 1099511627776))) 1099511627776) a2 (a2.length : Int) (wrap64 (a1 + 1))) = some r := by first | (rw [hji11] at H; exact H) | (simp only [hji11] at H ⊢; exact H)
       have b9 : (if (rd a2 a1) < 0 then 0 else (rd a2 a1)) = ji11 := hji11
       obtain ⟨ji12, hji12⟩ : ∃ j_ : Int, (mn (ji11) 1099511627776) = j_ := ⟨_, rfl⟩
       replace H : (Fo.l0 k1 (mn (wrap64 (a3 + (ji12))) 1099511627776) a2 (a2.length : Int) (wrap64 (a1 + 1))) = some r := by first | (rw [hji12] at H; exact H) | (simp only [hji12] at H ⊢; exact H)
       have c6 : (if 1099511627776 < (ji11) then 1099511627776 else (ji11)) = ji12 := hji12
       obtain ⟨ji13, hji13⟩ : ∃ j_ : Int, (mn (wrap64 (a3 + (ji12))) 1099511627776) = j_ := ⟨_, rfl⟩
       replace H : (Fo.l0 k1 ji13 a2 (a2.length : Int) (wrap64 (a1 + 1))) = some r := by first | (rw [hji13] at H; exact H) | (simp only [hji13] at H ⊢; exact H)
       have c7 : (if 1099511627776 < (wrap64 (a3 + (ji12))) then 1099511627776 else (wrap64 (a3 + (ji12)))) = ji13 := hji13
       have H' := am H
       clear H
       have a9 : 0 ≤ (a1 : Int) := od
       have b0 : a1 < (a2.length : Int) := od
       obtain ⟨d2, b8, b5⟩ := Kd.at_int (Kd.R_reads' a6.out).2.2 a1 a9 b0
       cases b8
       replace a9 := eq_true a9
       replace b0 := eq_true b0
       go_wp2
       go_roundg k1
       case measure => have := d1.out; omega
       case rel => exact ⟨(ji13), (wrap64 (a1 + 1)), (by first | rfl | (simp; done) | (simp only [← hji13] <;> (first | rfl | simp)) | (simp [*]; done)), el, H', ⟨by have := d1.out; omega⟩, ⟨(pR a6.out)⟩, ⟨pB HB.out⟩⟩
      rw [if_neg b4] at H
      exact absurd H (by simp)
     rw [if_neg c9] at H
     exact absurd H (by simp)
    rw [if_neg c8] at H
    have b7 := decide_eq_false c8
    clear c8
    obtain rfl := Option.some.inj H
    go_wp2
    go_ret
    exact ⟨er, pB HB.out⟩
 rw [if_neg c3] at H
 exact absurd H (by simp)
end Go.Proofs.Ytabmkighhmchmaa.X
namespace Go.Proofs.Ytabmkighhmchmaa
open Go.RowKit Go.Shelf Go.YW.PrintWords Go.YW.PrintLast Go.YW.PrintMore Go.YW.Sq
open X (S49 S51 k49 k51 q0c q1u z51)
set_option linter.unusedVariables false
set_option linter.unusedSimpArgs false
attribute [local go_sem] Oper.semAt_some
def firstS (u : Int) (xs : List S51) (a0 : Int) (x : Fin xs.length) : Int :=
 if (q0c xs (x.val : Int)).f0 = 2 ∧ (q0c xs (x.val : Int)).f2 ≤ u ∧ (a0 < 0 ∨ (q0c xs (x.val : Int)).f2 < (q0c xs a0).f2) then (x.val : Int) else a0
def q2o (u : Int) (xs : List S51) (a0 : List (Fin xs.length)) : Int := a0.foldl (firstS u xs) (-1)
theorem firstF_snoc (u : Int) (xs : List S51) (a0 : List (Fin xs.length)) (x : Fin xs.length) : q2o u xs (a0 ++ [x]) = firstS u xs (q2o u xs a0) x := by simp [q2o]
theorem firstF_lt (u : Int) (xs : List S51) (a0 : List (Fin xs.length)) : -1 ≤ q2o u xs a0 ∧ q2o u xs a0 < (xs.length : Int) := by
 have a1 : ∀ (l : List (Fin xs.length)) (a : Int), -1 ≤ a ∧ a < (xs.length : Int) → -1 ≤ l.foldl (firstS u xs) a ∧ l.foldl (firstS u xs) a < (xs.length : Int) := by
  intro l
  induction l with
  | nil => intro a h; exact h
  | cons x l ih =>
   intro a h
   refine ih _ ?_
   unfold firstS
   split
   ·
    have := x.isLt; omega
   exact h
 exact a1 a0 (-1) ⟨Int.le_refl _, by omega⟩
set_option maxRecDepth 100000 in
set_option maxHeartbeats 4000000 in
theorem first_in (k : Nat) (u : Int) (ky nm : ByteArray) (A1 : Option Addr) (n1 c1 : Nat) (is : Int) (A2 : Option Addr) (c2 : Nat) (xs : List S51) (now : Int) (w : World) (hC : Kd.C k51 w A2 xs.length xs) (hl : xs.length ≤ 1000000) (hU : X.Fo.f k now [] = some u) :
  Calls Try.prog 36 #[.agg (runV ky nm A1 n1 c1 is A2 xs.length c2), .int .i64 now] w fun e w' => e = .returned (.int .i64 (q2o u xs (List.finRange xs.length))) ∧ Below w.heap.size w w' := by
 have b8 := Try.underlying27
 have b9 := Try.underlying51
 have b7 := Try.underlying25
 have HC := am hC
 have HL := am hl
 have HU := am (fun (W : World) => show Calls Try.prog 75 #[.int .i64 now, .slice none 0 0] W (fun e w' => e = .returned (.int .i64 u) ∧ Below W.heap.size W w') from X.Fo.calls k now none 0 [] u W (by rw [List.length_nil]; exact Kd.C_nil _ _) (Nat.le_refl _) hU)
 clear hC hl hU
 refine (callsIn_wide (n := 6)).1 ?_
 refine callsIn_of_wp_marks Try.func36 rfl trivial ?_ rfl
 simp only [Try.ntmps36, List.size_toArray, List.length_cons, List.length_nil, Nat.reduceAdd, Nat.reduceSub, Array.replicate_succ, Array.replicate_zero, List.push_toArray, List.append_toArray, List.nil_append, List.cons_append]
 gi_wp2_with (refine ⟨trivial, ?_⟩; gi_at_call 43; refine (callsIn_wide.2 (q4s ky nm A1 n1 c1 is A2 xs.length c2 _)).mono ?_; rintro e w3 ⟨gb, rfl, hg, b1, hb⟩; have HG := am hg; have b2 := am b1; have a6 := am hb; clear hg b1 hb)
 have B2 := am (show w3.heap[w.heap.size]? = some (.cells (runV ky nm A1 n1 c1 is A2 xs.length c2) 27 (0, 0)) from q0b (q0h (q0h (q1j w (.cells (runV ky nm A1 n1 c1 is A2 xs.length c2) 27)) _) _) a6.out)
 have B3 := am (show w3.heap[w.heap.size + 1]? = some (.cells #[.int .i64 now] 3 (0, 0)) from q0b (by refine q0h ?_ _; have h_ := q1j (w.alloc (.cells (runV ky nm A1 n1 c1 is A2 xs.length c2) 27)) (.cells #[.int .i64 now] 3); rwa [World.size_alloc] at h_) a6.out)
 have B5 := am (show w3.heap[w.heap.size + 1 + 1]? = some (.cells #[.int .i64 (q2o u xs [])] 3 (0, 0)) from q0b (by have h_ := q1j ((w.alloc (.cells (runV ky nm A1 n1 c1 is A2 xs.length c2) 27)).alloc (.cells #[.int .i64 now] 3)) (.cells #[.int .i64 (-1)] 3); rwa [World.size_alloc, World.size_alloc] at h_) a6.out)
 have HB := am (q0j (q0d (q0d (q0d (Below.refl _ w) _) _) _) a6.out)
 have HS := am (show w.heap.size + 3 ≤ w3.heap.size by have := a6.out.size; simp at this; omega)
 clear HG a6
 refine wpIn_rangeFunc_ownH (w0 := w3) rfl (by omega) (gf := 78) (lb := #[.pointer (some ⟨gb, 0, none⟩)]) rfl trivial (enters_of Try.func78 (by kernel_rfl) rfl)
  (q5d 5 (by omega) gb ky nm A1 n1 c1 is A2 c2 xs w w3 HC.out HL.out HB.out b2.out) belowK_t (belowK_b (by have := HS.out; omega)) (Below.refl _ _) (fun _ => rfl)
  (fun a5 W => ((W.heap[w.heap.size]? = some (.cells (runV ky nm A1 n1 c1 is A2 xs.length c2) 27 (0, 0))) ∧ (W.heap[w.heap.size + 1]? = some (.cells #[.int .i64 now] 3 (0, 0))) ∧ (W.heap[w.heap.size + 1 + 1]? = some (.cells #[.int .i64 (q2o u xs a5)] 3 (0, 0)))) ∧ (Below w.heap.size w W ∧ w3.heap.size ≤ W.heap.size))
  (fun _ _ _ => False)
  (OwnFrom.and (Own.from (fun s A B c6 hs hg hr => ⟨q1d hs.1 hg hr, q1d hs.2.1 hg hr, q1d hs.2.2 hg hr⟩) _) (OwnFrom.and (ownFrom_below (Nat.le_refl _) (by have := HS.out; omega)) (fun _ _ _ _ hs hg _ => Nat.le_trans hs hg.size)))
  (fun _ _ _ _ _ hs _ _ => hs)
  ⟨⟨B2.out, B3.out, B5.out⟩, HB.out, Nat.le_refl _⟩
  (fun x a' W => ∃ Bx, w3.heap.size ≤ Bx ∧ W.heap[Bx]? = some (.cells #[.int .i64 (q0c xs (x.val : Int)).f0, .int .i64 (q0c xs (x.val : Int)).f1, .int .i64 (q0c xs (x.val : Int)).f2, .int .i64 (q0c xs (x.val : Int)).f3, .string (q0c xs (x.val : Int)).f4] 51 (0, 0)) ∧ a' = { tmps := #[Value.agg (runV ky nm A1 n1 c1 is A2 xs.length c2), Value.int IntKind.i64 now, Value.pointer (some ⟨w.heap.size, 0, none⟩), Value.pointer (some ⟨w.heap.size + 1, 0, none⟩), Value.int IntKind.i64 0, Value.pointer (some ⟨w.heap.size + 1 + 1, 0, none⟩), .int .i64 ((x.val : Nat) : Int), .pointer (some ⟨Bx, 0, none⟩), Value.agg (runV ky nm A1 n1 c1 is A2 xs.length c2), Value.func (Fn.func 78) #[] #[Value.pointer (some ⟨gb, 0, none⟩)], .int .i64 ((x.val : Nat) : Int), .agg #[.int .i64 (q0c xs (x.val : Int)).f0, .int .i64 (q0c xs (x.val : Int)).f1, .int .i64 (q0c xs (x.val : Int)).f2, .int .i64 (q0c xs (x.val : Int)).f3, .string (q0c xs (x.val : Int)).f4], undef, undef, undef, undef, undef, undef, undef, undef, undef, undef, undef, undef, undef, undef, undef, undef, undef, undef, undef, undef, undef, undef, undef, undef, undef, undef, undef], defers := [] })
  (fun x a' => Own.from (fun s A B c6 hs hg hr => by obtain ⟨Bx, h1, h2, h3⟩ := hs; exact ⟨Bx, h1, q1d h2 hg hr, h3⟩) _) ?assign ?body ?done ?stop
 case assign =>
  rintro l a5 x W K ⟨⟨h2, h3, h5⟩, hB, hS⟩ hK
  have H2 := am h2
  have H3 := am h3
  have H5 := am h5
  have a3 := am hB
  clear h2 h3 h5 hB
  dsimp only [encF]
  gi_wp2
  exact hK _ _ ((KeepsOthers.alloc _ _).from _) ((Below.refl _ W).alloc a3.out.size _) ⟨⟨q0h H2.out _, q0h H3.out _, q0h H5.out _⟩, q0d a3.out _, by simp; omega⟩ ⟨W.heap.size, hS, q1j _ _, rfl⟩
 case body =>
  rintro l a5 x a' W hl hr ⟨⟨h2, h3, h5⟩, hB, hS⟩ ⟨Bx, b3, bX, rfl⟩ b6
  have H2 := am h2
  have H3 := am h3
  have H5 := am h5
  have a3 := am hB
  have HX := am bX
  have a4 := am hS
  clear h2 h3 h5 hB bX hr hl b6 hS b3
  obtain ⟨b5, a9⟩ := firstF_lt u xs a5
  have HE := am (firstF_snoc u xs a5 x)
  generalize q2o u xs a5 = a2 at *
  unfold firstS at HE
  by_cases c1 : (q0c xs (x.val : Int)).f0 = 2
  case neg =>
   have E1 := beq_eq_false_iff_ne.2 c1
   rw [if_neg (fun h => c1 h.1)] at HE
   gi_wp2
   refine q1v (n := 25) (S := fun w' => w'.cell? ⟨Bx, 0, none⟩ = some (.int .i64 (q0c xs (x.val : Int)).f0)) (ds := []) (ba 25 0) (by kernel_rfl) rfl rfl (((q0i (q0g HX.out) 0).trans rfl)) ?_ (by kernel_rfl) (fun a0 => ?_)
   ·
    rintro ⟨_, _, h_⟩; exact h_
   refine ph 0 12 (ba 25 1) ?_
   refine th 1 13 (ba 25 3) a0 ?_
   refine ph 2 14 (ba 25 7) ?_
   refine ph 3 15 (ba 25 15) ?_
   refine pj 4 16 (ba 25 31) ?_
   refine pj 5 17 (ba 25 63) ?_
   refine pj 6 18 (ba 25 127) ?_
   refine pj 7 19 (ba 25 255) ?_
   refine pj 8 20 (ba 25 511) ?_
   refine ph 9 21 (ba 25 1023) ?_
   refine ph 10 22 (ba 25 2047) ?_
   refine pj 11 23 (ba 25 4095) ?_
   refine pj 12 24 (ba 25 8191) ?_
   refine pj 13 25 (ba 25 16383) ?_
   refine pj 14 26 (ba 25 32767) ?_
   refine pj 15 27 (ba 25 65535) ?_
   refine pj 16 28 (ba 25 131071) ?_
   refine pj 17 29 (ba 25 262143) ?_
   refine pj 18 30 (ba 25 524287) ?_
   refine pj 19 31 (ba 25 1048575) ?_
   refine pj 20 32 (ba 25 2097151) ?_
   refine pj 21 33 (ba 25 4194303) ?_
   refine pj 22 34 (ba 25 8388607) ?_
   refine pj 23 35 (ba 25 16777215) ?_
   refine ph 24 36 (ba 25 33554431) ?_
   refine q2a (by kernel_rfl) ?_
   gi_wp2
   exact ⟨(q1b (q0a (Below.refl W.heap.size W))).from _, (q0a (Below.refl _ _)), ⟨q0g H2.out, q0g H3.out, by rw [HE.out]; exact q0g H5.out⟩, q0a a3.out, a4.out⟩
  have E1 := beq_iff_eq.2 c1
  by_cases a7 : (q0c xs (x.val : Int)).f2 ≤ u
  case neg =>
   have E2 := decide_eq_false a7
   rw [if_neg (fun h => a7 h.2.1)] at HE
   gi_wp2
   refine q1v (n := 25) (S := fun w' => w'.cell? ⟨Bx, 0, none⟩ = some (.int .i64 (q0c xs (x.val : Int)).f0) ∧ w'.cell? ⟨Bx, 2, none⟩ = some (.int .i64 (q0c xs (x.val : Int)).f2) ∧ w'.cell? ⟨w.heap.size + 1, 0, none⟩ = some (.int .i64 now)) (ds := []) (ba 25 0) (by kernel_rfl) rfl rfl ⟨((q0i (q0g HX.out) 0).trans rfl), ((q0i (q0g HX.out) 2).trans rfl), ((q0i (q0g H3.out) 0).trans rfl)⟩ ?_ (by kernel_rfl) (fun a0 => ?_)
   ·
    rintro ⟨_, _, h_⟩; exact h_
   refine ph 0 12 (ba 25 1) ?_
   refine th 1 13 (ba 25 3) a0 ?_
   refine ph 2 14 (ba 25 7) ?_
   refine ph 3 15 (ba 25 15) ?_
   refine ph 4 16 (ba 25 31) ?_
   refine th 5 17 (ba 25 63) a0 ?_
   refine th 6 18 (ba 25 127) a0 ?_
   refine oh 7 19 (ba 25 255) fun K hK => ?_
   refine q2c Try.func75 (by kernel_rfl) rfl #[.int .i64 now, .slice none 0 0] (by rfl) rfl rfl (by simp only [List.map_toArray, List.map_cons, List.map_nil]; rfl) ?_
   with_reducible refine (HU.out _).mono ?_
   rintro e w5 ⟨rfl, hb⟩
   refine ⟨_, rfl, ?_⟩
   have a1 := am (q0j (q0a (Below.refl W.heap.size W)) hb)
   clear hb
   refine hK.out _ _ ⟨((q0i (q0b HX.out a1.out) 0).trans rfl), ((q0i (q0b HX.out a1.out) 2).trans rfl), ((q0i (q0b H3.out a1.out) 0).trans rfl)⟩ (fun a0 => ?_)
   clear hK K
   refine nh ?_
   refine ph 8 20 (ba 25 511) ?_
   refine ph 9 21 (ba 25 1023) ?_
   refine ph 10 22 (ba 25 2047) ?_
   refine pj 11 23 (ba 25 4095) ?_
   refine pj 12 24 (ba 25 8191) ?_
   refine pj 13 25 (ba 25 16383) ?_
   refine pj 14 26 (ba 25 32767) ?_
   refine pj 15 27 (ba 25 65535) ?_
   refine pj 16 28 (ba 25 131071) ?_
   refine pj 17 29 (ba 25 262143) ?_
   refine pj 18 30 (ba 25 524287) ?_
   refine pj 19 31 (ba 25 1048575) ?_
   refine pj 20 32 (ba 25 2097151) ?_
   refine pj 21 33 (ba 25 4194303) ?_
   refine pj 22 34 (ba 25 8388607) ?_
   refine pj 23 35 (ba 25 16777215) ?_
   refine ph 24 36 (ba 25 33554431) ?_
   refine q2a (by kernel_rfl) ?_
   gi_wp2
   refine ⟨(q1b a1.out).from _, (a1.out.mono (by have := a4.out; have := HS.out; omega)), ⟨q0b H2.out a1.out, q0b H3.out a1.out, by rw [HE.out]; exact q0b H5.out a1.out⟩, q0j a3.out a1.out, by have := a1.out.size; have := a4.out; omega⟩
  have E2 := decide_eq_true a7
  by_cases c3 : a2 < 0
  case pos =>
   have E3 := decide_eq_true c3
   rw [if_pos ⟨c1, a7, Or.inl c3⟩] at HE
   gi_wp2
   refine q1v (n := 25) (S := fun w' => w'.cell? ⟨Bx, 0, none⟩ = some (.int .i64 (q0c xs (x.val : Int)).f0) ∧ w'.cell? ⟨Bx, 2, none⟩ = some (.int .i64 (q0c xs (x.val : Int)).f2) ∧ w'.cell? ⟨w.heap.size + 1, 0, none⟩ = some (.int .i64 now) ∧ w'.cell? ⟨w.heap.size + 1 + 1, 0, none⟩ = some (.int .i64 a2)) (ds := []) (ba 25 0) (by kernel_rfl) rfl rfl ⟨((q0i (q0g HX.out) 0).trans rfl), ((q0i (q0g HX.out) 2).trans rfl), ((q0i (q0g H3.out) 0).trans rfl), ((q0i (q0g H5.out) 0).trans rfl)⟩ ?_ (by kernel_rfl) (fun a0 => ?_)
   ·
    rintro ⟨_, _, h_⟩; exact h_
   refine ph 0 12 (ba 25 1) ?_
   refine th 1 13 (ba 25 3) a0 ?_
   refine ph 2 14 (ba 25 7) ?_
   refine ph 3 15 (ba 25 15) ?_
   refine ph 4 16 (ba 25 31) ?_
   refine th 5 17 (ba 25 63) a0 ?_
   refine th 6 18 (ba 25 127) a0 ?_
   refine oh 7 19 (ba 25 255) fun K hK => ?_
   refine q2c Try.func75 (by kernel_rfl) rfl #[.int .i64 now, .slice none 0 0] (by rfl) rfl rfl (by simp only [List.map_toArray, List.map_cons, List.map_nil]; rfl) ?_
   with_reducible refine (HU.out _).mono ?_
   rintro e w5 ⟨rfl, hb⟩
   refine ⟨_, rfl, ?_⟩
   have a1 := am (q0j (q0a (Below.refl W.heap.size W)) hb)
   clear hb
   refine hK.out _ _ ⟨((q0i (q0b HX.out a1.out) 0).trans rfl), ((q0i (q0b HX.out a1.out) 2).trans rfl), ((q0i (q0b H3.out a1.out) 0).trans rfl), ((q0i (q0b H5.out a1.out) 0).trans rfl)⟩ (fun a0 => ?_)
   clear hK K
   refine nh ?_
   refine ph 8 20 (ba 25 511) ?_
   refine ph 9 21 (ba 25 1023) ?_
   refine ph 10 22 (ba 25 2047) ?_
   refine th 11 23 (ba 25 4095) a0 ?_
   refine ph 12 24 (ba 25 8191) ?_
   refine ph 13 25 (ba 25 16383) ?_
   refine pj 14 26 (ba 25 32767) ?_
   refine pj 15 27 (ba 25 65535) ?_
   refine pj 16 28 (ba 25 131071) ?_
   refine pj 17 29 (ba 25 262143) ?_
   refine pj 18 30 (ba 25 524287) ?_
   refine pj 19 31 (ba 25 1048575) ?_
   refine pj 20 32 (ba 25 2097151) ?_
   refine pj 21 33 (ba 25 4194303) ?_
   refine pj 22 34 (ba 25 8388607) ?_
   refine ph 23 35 (ba 25 16777215) ?_
   refine ph 24 36 (ba 25 33554431) ?_
   refine q2a (by kernel_rfl) ?_
   have f5 := q0k (q0b H5.out a1.out) 0
   have k5 : w5.cell? ⟨w.heap.size + 1 + 1, 0, none⟩ = some (.int .i64 a2) := (q0i (q0b H5.out a1.out) 0).trans rfl
   gi_wp2
   refine ⟨KeepsFrom.trans ((q1b a1.out).from _) ((KeepsOthers.setCell _ _ _).from _), (a1.out.mono (by have := a4.out; have := HS.out; omega)).setCell (p := ⟨w.heap.size + 1 + 1, 0, none⟩) (by show w.heap.size ≤ w.heap.size + 1 + 1; omega) _, ⟨?_, ?_, ?_⟩, q0n (q0j a3.out a1.out) (by show w.heap.size ≤ w.heap.size + 1 + 1; omega), by have := a1.out.size; have := a4.out; simp; omega⟩
   ·
    exact q0l (q0b H2.out a1.out) (by show w.heap.size ≠ w.heap.size + 1 + 1; omega) _
   ·
    exact q0l (q0b H3.out a1.out) (by show w.heap.size + 1 ≠ w.heap.size + 1 + 1; omega) _
   rw [HE.out]
   exact q0o (cs := #[.int .i64 a2]) (q0b H5.out a1.out) 0 _ rfl
  have E3 := decide_eq_false c3
  obtain ⟨ad, hA2, hAT0⟩ : ∃ ad : Addr, A2 = some ad ∧ ∀ W', Below w.heap.size w W' → W'.cell? ⟨(ad.add (a2.toNat * 5)).block, (ad.add (a2.toNat * 5)).off + 2, none⟩ = some (.int .i64 (q0c xs a2).f2) := by
   obtain ⟨ad, e_, _, _, h_, _⟩ := q1u HC.out a2 (by omega) a9
   exact ⟨ad, e_, fun W' b4 => (b4.cell (World.block_lt_of_cell? w _ h_)).trans h_⟩
  have a8 := hAT0
  clear hAT0
  subst hA2
  have p1 : (0 : Int) ≤ a2 := by omega
  by_cases c4 : (q0c xs (x.val : Int)).f2 < (q0c xs a2).f2
  case neg =>
   have E4 := decide_eq_false c4
   rw [if_neg (fun h => h.2.2.elim c3 c4)] at HE
   gi_wp2
   refine q1v (n := 25) (S := fun w' => w'.cell? ⟨Bx, 0, none⟩ = some (.int .i64 (q0c xs (x.val : Int)).f0) ∧ w'.cell? ⟨Bx, 2, none⟩ = some (.int .i64 (q0c xs (x.val : Int)).f2) ∧ w'.cell? ⟨w.heap.size + 1, 0, none⟩ = some (.int .i64 now) ∧ w'.cell? ⟨w.heap.size + 1 + 1, 0, none⟩ = some (.int .i64 a2) ∧ w'.cell? ⟨w.heap.size, 4, none⟩ = some (.slice (some ad) xs.length c2) ∧ w'.cell? ⟨(ad.add (a2.toNat * 5)).block, (ad.add (a2.toNat * 5)).off + 2, none⟩ = some (.int .i64 (q0c xs a2).f2)) (ds := []) (ba 25 0) (by kernel_rfl) rfl rfl ⟨((q0i (q0g HX.out) 0).trans rfl), ((q0i (q0g HX.out) 2).trans rfl), ((q0i (q0g H3.out) 0).trans rfl), ((q0i (q0g H5.out) 0).trans rfl), ((q0i (q0g H2.out) 4).trans rfl), (a8 _ (q0a a3.out))⟩ ?_ (by kernel_rfl) (fun a0 => ?_)
   ·
    rintro ⟨_, _, h_⟩; exact h_
   refine ph 0 12 (ba 25 1) ?_
   refine th 1 13 (ba 25 3) a0 ?_
   refine ph 2 14 (ba 25 7) ?_
   refine ph 3 15 (ba 25 15) ?_
   refine ph 4 16 (ba 25 31) ?_
   refine th 5 17 (ba 25 63) a0 ?_
   refine th 6 18 (ba 25 127) a0 ?_
   refine oh 7 19 (ba 25 255) fun K hK => ?_
   refine q2c Try.func75 (by kernel_rfl) rfl #[.int .i64 now, .slice none 0 0] (by rfl) rfl rfl (by simp only [List.map_toArray, List.map_cons, List.map_nil]; rfl) ?_
   with_reducible refine (HU.out _).mono ?_
   rintro e w5 ⟨rfl, hb⟩
   refine ⟨_, rfl, ?_⟩
   have a1 := am (q0j (q0a (Below.refl W.heap.size W)) hb)
   clear hb
   refine hK.out _ _ ⟨((q0i (q0b HX.out a1.out) 0).trans rfl), ((q0i (q0b HX.out a1.out) 2).trans rfl), ((q0i (q0b H3.out a1.out) 0).trans rfl), ((q0i (q0b H5.out a1.out) 0).trans rfl), ((q0i (q0b H2.out a1.out) 4).trans rfl), (a8 _ (q0j a3.out a1.out))⟩ (fun a0 => ?_)
   clear hK K
   refine nh ?_
   refine ph 8 20 (ba 25 511) ?_
   refine ph 9 21 (ba 25 1023) ?_
   refine ph 10 22 (ba 25 2047) ?_
   refine th 11 23 (ba 25 4095) a0 ?_
   refine ph 12 24 (ba 25 8191) ?_
   refine ph 13 25 (ba 25 16383) ?_
   refine ph 14 26 (ba 25 32767) ?_
   refine ph 16 28 (ba 25 98303) ?_
   refine th 15 27 (ba 25 131071) a0 ?_
   refine th 17 29 (ba 25 262143) a0 ?_
   refine th 18 30 (ba 25 524287) a0 ?_
   refine ph 19 31 (ba 25 1048575) ?_
   refine ph 20 32 (ba 25 2097151) ?_
   refine th 21 33 (ba 25 4194303) a0 ?_
   refine ph 22 34 (ba 25 8388607) ?_
   refine ph 23 35 (ba 25 16777215) ?_
   refine ph 24 36 (ba 25 33554431) ?_
   refine q2a (by kernel_rfl) ?_
   gi_wp2
   refine ⟨(q1b a1.out).from _, (a1.out.mono (by have := a4.out; have := HS.out; omega)), ⟨q0b H2.out a1.out, q0b H3.out a1.out, by rw [HE.out]; exact q0b H5.out a1.out⟩, q0j a3.out a1.out, by have := a1.out.size; have := a4.out; omega⟩
  have E4 := decide_eq_true c4
  rw [if_pos ⟨c1, a7, Or.inr c4⟩] at HE
  gi_wp2
  refine q1v (n := 25) (S := fun w' => w'.cell? ⟨Bx, 0, none⟩ = some (.int .i64 (q0c xs (x.val : Int)).f0) ∧ w'.cell? ⟨Bx, 2, none⟩ = some (.int .i64 (q0c xs (x.val : Int)).f2) ∧ w'.cell? ⟨w.heap.size + 1, 0, none⟩ = some (.int .i64 now) ∧ w'.cell? ⟨w.heap.size + 1 + 1, 0, none⟩ = some (.int .i64 a2) ∧ w'.cell? ⟨w.heap.size, 4, none⟩ = some (.slice (some ad) xs.length c2) ∧ w'.cell? ⟨(ad.add (a2.toNat * 5)).block, (ad.add (a2.toNat * 5)).off + 2, none⟩ = some (.int .i64 (q0c xs a2).f2)) (ds := []) (ba 25 0) (by kernel_rfl) rfl rfl ⟨((q0i (q0g HX.out) 0).trans rfl), ((q0i (q0g HX.out) 2).trans rfl), ((q0i (q0g H3.out) 0).trans rfl), ((q0i (q0g H5.out) 0).trans rfl), ((q0i (q0g H2.out) 4).trans rfl), (a8 _ (q0a a3.out))⟩ ?_ (by kernel_rfl) (fun a0 => ?_)
  ·
   rintro ⟨_, _, h_⟩; exact h_
  refine ph 0 12 (ba 25 1) ?_
  refine th 1 13 (ba 25 3) a0 ?_
  refine ph 2 14 (ba 25 7) ?_
  refine ph 3 15 (ba 25 15) ?_
  refine ph 4 16 (ba 25 31) ?_
  refine th 5 17 (ba 25 63) a0 ?_
  refine th 6 18 (ba 25 127) a0 ?_
  refine oh 7 19 (ba 25 255) fun K hK => ?_
  refine q2c Try.func75 (by kernel_rfl) rfl #[.int .i64 now, .slice none 0 0] (by rfl) rfl rfl (by simp only [List.map_toArray, List.map_cons, List.map_nil]; rfl) ?_
  with_reducible refine (HU.out _).mono ?_
  rintro e w5 ⟨rfl, hb⟩
  refine ⟨_, rfl, ?_⟩
  have a1 := am (q0j (q0a (Below.refl W.heap.size W)) hb)
  clear hb
  refine hK.out _ _ ⟨((q0i (q0b HX.out a1.out) 0).trans rfl), ((q0i (q0b HX.out a1.out) 2).trans rfl), ((q0i (q0b H3.out a1.out) 0).trans rfl), ((q0i (q0b H5.out a1.out) 0).trans rfl), ((q0i (q0b H2.out a1.out) 4).trans rfl), (a8 _ (q0j a3.out a1.out))⟩ (fun a0 => ?_)
  clear hK K
  refine nh ?_
  refine ph 8 20 (ba 25 511) ?_
  refine ph 9 21 (ba 25 1023) ?_
  refine ph 10 22 (ba 25 2047) ?_
  refine th 11 23 (ba 25 4095) a0 ?_
  refine ph 12 24 (ba 25 8191) ?_
  refine ph 13 25 (ba 25 16383) ?_
  refine ph 14 26 (ba 25 32767) ?_
  refine ph 16 28 (ba 25 98303) ?_
  refine th 15 27 (ba 25 131071) a0 ?_
  refine th 17 29 (ba 25 262143) a0 ?_
  refine th 18 30 (ba 25 524287) a0 ?_
  refine ph 19 31 (ba 25 1048575) ?_
  refine ph 20 32 (ba 25 2097151) ?_
  refine th 21 33 (ba 25 4194303) a0 ?_
  refine ph 22 34 (ba 25 8388607) ?_
  refine ph 23 35 (ba 25 16777215) ?_
  refine ph 24 36 (ba 25 33554431) ?_
  refine q2a (by kernel_rfl) ?_
  have f5 := q0k (q0b H5.out a1.out) 0
  have k5 : w5.cell? ⟨w.heap.size + 1 + 1, 0, none⟩ = some (.int .i64 a2) := (q0i (q0b H5.out a1.out) 0).trans rfl
  gi_wp2
  refine ⟨KeepsFrom.trans ((q1b a1.out).from _) ((KeepsOthers.setCell _ _ _).from _), (a1.out.mono (by have := a4.out; have := HS.out; omega)).setCell (p := ⟨w.heap.size + 1 + 1, 0, none⟩) (by show w.heap.size ≤ w.heap.size + 1 + 1; omega) _, ⟨?_, ?_, ?_⟩, q0n (q0j a3.out a1.out) (by show w.heap.size ≤ w.heap.size + 1 + 1; omega), by have := a1.out.size; have := a4.out; simp; omega⟩
  ·
   exact q0l (q0b H2.out a1.out) (by show w.heap.size ≠ w.heap.size + 1 + 1; omega) _
  ·
   exact q0l (q0b H3.out a1.out) (by show w.heap.size + 1 ≠ w.heap.size + 1 + 1; omega) _
  rw [HE.out]
  exact q0o (cs := #[.int .i64 a2]) (q0b H5.out a1.out) 0 _ rfl
 case done =>
  rintro D ys W hD rfl ⟨⟨h2, h3, h5⟩, hB, _⟩ hK
  rw [uptoF_all] at h5
  have k5 : W.cell? ⟨w.heap.size + 1 + 1, 0, none⟩ = some (.int .i64 (q2o u xs (List.finRange xs.length))) := bc h5
  have a3 := am hB
  have b0 := am hK
  clear hB h2 h3 h5 hK
  gi_wp2
  refine ⟨by simp, .inl ⟨_, _, rfl, run_takeDeferred b0.out, ?_⟩⟩
  exact ⟨_, results_tmp rfl _ _ _, rfl, a3.out.trans (belowK_b (w := w) (Nat.le_refl _) W D _ _ (by have := HS.out; omega) b0.out rfl rfl)⟩
 case stop =>
  rintro D c a5 W hD _ h _
  exact h.elim
end Go.Proofs.Ytabmkighhmchmaa
namespace Go.Proofs.Ytabmkighhmchmaa.X
open Go.RowKit Go.YW.PrintWords Go.YW.PrintLast Go.YW.PrintMore Go.YW.Sq
attribute [local go_sem] q0y q0w q1g q1f q0t q0s q0x q0v
set_option linter.unusedVariables false
set_option linter.unusedSimpArgs false
def Fx.l0 : Nat → List (S49) → List Bool → List Int → Option (List Int)
 | 0, _, _, _ => none
 | k + 1, x0, x3, x4 => (Ge.f k x0 x3).bind fun a0 => (if (a0.length : Int) = 0 then (some x4) else (if 0 < (a0.length : Int) then (if 0 ≤ (rd a0 0) then (if (rd a0 0) < (x3.length : Int) then (if x4.length < 17592186044416 then (Fx.l0 k x0 (x3.set ((rd a0 0) : Int).toNat true) (x4 ++ [rd a0 0])) else (none)) else (none)) else (none)) else (none)))
def Fx.f (k : Nat) (l0 : List (S49)) : Option (List Int) := if 0 ≤ (l0.length : Int) then (if ((l0.length : Int) : Int).toNat ≤ 281474976710656 then (Fx.l0 k l0 (List.replicate ((l0.length : Int) : Int).toNat false) ([] : List Int)) else (none)) else (none)
set_option maxHeartbeats 8000000 in
set_option maxRecDepth 100000 in
theorem Fx.calls (k : Nat) (A0 : Option Addr) (c0 : Nat) (l0 : List (S49)) (r : List Int) (w : World) (h5 : Kd.C k49 w A0 l0.length l0) (h3 : l0.length ≤ c0) (h : Fx.f k l0 = some r) :
  Calls Try.prog 71 #[.slice A0 l0.length c0] w fun e w' => ∃ i0 : Value, e = .returned (i0) ∧ Kd.R (Kd.int .i64) 3 w' w.heap.size (fun _ => True) i0 r ∧ Below w.heap.size w w' := by
 have g6 := am h5
 have g4 := am h3
 clear h5 h3
 have HB := am (Below.refl w.heap.size w)
 unfold Fx.f at h
 have H := h
 clear h
 by_cases c2 : 0 ≤ (l0.length : Int)
 ·
  rw [if_pos c2] at H
  have e3 := eq_true c2
  have e4 := decide_eq_true c2
  clear c2
  by_cases c3 : ((l0.length : Int) : Int).toNat ≤ 281474976710656
  ·
   rw [if_pos c3] at H
   have e5 := eq_true c3
   have e6 := decide_eq_true c3
   clear c3
   obtain ⟨y936, hy936⟩ : ∃ y_ : List Bool, y_ = (List.replicate ((l0.length : Int) : Int).toNat false) := ⟨_, rfl⟩
   replace H : (Fx.l0 k l0 y936 ([] : List Int)) = some r := by first | (rw [hy936]; with_reducible exact H) | (have a8 := (Option.bind_some _ _).symm.trans H; rw [hy936]; with_reducible exact a8) | (have a8 := (Option.bind_some _ _).symm.trans H; with_reducible exact a8) | with_reducible exact H | (rw [hy936]; exact H) | exact H
   have b1 := am hy936
   clear hy936
   have H' := am H
   clear H
   go_enter Try.func71, Try.ntmps71
   go_wp2_with (first | ((with_reducible refine gD 8 ?_); refine Kd.R_make Kd.bool _ 4 rfl (N := 8) rfl 56 _ _ rfl (l0.length : Int) rfl rfl Try.underlying56 (.bool false) 1 info4 rfl (by decide) (by omega) false (ok := fun _ => True) (okp := fun _ => True) rfl (fun _ hk => hk) trivial (of_decide_eq_true (by first | (with_reducible assumption) | assumption)) (Nat.le_trans (Nat.mul_le_mul_right _ (of_decide_eq_true (by first | (with_reducible assumption) | assumption) : (l0.length : Int).toNat ≤ 281474976710656)) (by omega)) (Below.refl _ _) (Nat.le_refl _) ?_; intro g0 w4 d6 hb j2 d5; clear j2 d5; (first | rw [← b1.out] at d6 | (simp only [Int.reduceToNat] at d6; rw [← b1.out] at d6)); have c6 := am (Kd.R_lower d6 (q0p (pB HB.out))); replace HB := bS HB hb; clear hb d6))
   go_loopg [4] k (fun kq v4 w' => ∃ (a3 : List Bool) (a5 : List Int), q0f (Fx.l0 kq l0 a3 a5 = some r) ∧ q0f (kq ≤ k) ∧ q0f (Kd.R Kd.bool 4 w' w.heap.size (fun _ => True) g0 a3) ∧ q0f (Kd.R (Kd.int .i64) 3 w' w.heap.size (fun _ => True) v4 a5) ∧ q0f (Below w.heap.size w w'))
   case atStart => exact ⟨(y936), (([] : List Int)), H', ⟨Nat.le_refl _⟩, ⟨(pR c6.out)⟩, ⟨by first | exact Kd.R_nil _ _ _ _ _ | exact Kd.N_nil _ _ _ _ _ | exact Kd.V_nil _ _ _ _ _ | exact Kd.Q_nil _ _ _ _ _ | exact Kd.S_nil _ _ _ _ _⟩, ⟨pB HB.out⟩⟩
   case round =>
    clear H'
    try clear c2
    try clear e3
    try clear e4
    try clear c3
    try clear e5
    try clear e6
    try clear HB
    obtain ⟨a3, a5, HA, g5, a1, a4, HB⟩ := hrel
    cases gk with
    | zero => exact absurd HA.out (by simp [Fx.l0])
    | succ k1 =>
     have H := HA.out
     clear HA
     simp only [Fx.l0] at H
     replace H := Option.bind_eq_some_iff.mp H
     obtain ⟨a0, g3, H⟩ := H
     try dsimp only at H
     have A6 := am g3
     clear g3
     by_cases c7 : (a0.length : Int) = 0
     ·
      rw [if_pos c7] at H
      obtain ⟨e7, e8⟩ := qt c7
      clear c7
      obtain rfl := Option.some.inj H
      obtain ⟨i4, j0, j1⟩ := Kd.R_slice a1.out
      subst j1
      go_wp2_with (first | ((with_reducible refine gC 88 ?_); refine gL 11 Try.func88 #[.slice A0 l0.length c0, .slice i4 a3.length j0] ?_; (with_reducible refine (Ge.calls k1 _ _ l0 _ _ a3 a0 _ ?side1 ?side2 ?side3 ?side4 A6.out).mono ?_); (case side1 => exact (Kd.C_below g6.out (pB HB.out))); (case side2 => exact g4.out); (case side3 => exact pC ((Kd.R_reads' a1.out).2.2)); (case side4 => exact (Kd.R_reads' a1.out).2.1); rintro e w9 ⟨g1, rfl, b4, hb⟩; refine ⟨_, rfl, ?_⟩; replace a1 := am (Kd.R_below (pR a1.out) hb); have a2 := am (Kd.R_lower (Kd.R_new' b4 (Kd.R_lt (pR a4.out))) (q0p (pB HB.out))); replace a4 := am (Kd.R_elder' (pR a4.out) (Kd.R_base b4) hb); replace HB := bS HB hb; (try clear hb); (try clear b4); obtain ⟨i2, i8, f2⟩ := Kd.R_slice a2.out; subst f2))
      go_ret
      exact ⟨_, by first | rfl | (simp [q1t, q1s] <;> rfl) | (simp [*, q1t, q1s] <;> rfl), by exact Kd.R_mono (pR a4.out) (fun _ hk => trivial), pB HB.out⟩
     rw [if_neg c7] at H
     obtain ⟨e7, e8⟩ := qf c7
     have i6 : ¬ (a0 = []) := fun h_ => c7 (by rw [h_]; rfl)
     by_cases d7 : 0 < (a0.length : Int)
     ·
      rw [if_pos d7] at H
      have g7 := decide_eq_true d7
      have g8 : decide (0 < a0.length) = true := decide_eq_true (by omega)
      clear d7
      by_cases d8 : 0 ≤ (rd a0 0)
      ·
       rw [if_pos d8] at H
       have g9 := decide_eq_true d8
       clear d8
       by_cases d9 : (rd a0 0) < (a3.length : Int)
       ·
        rw [if_pos d9] at H
        have h0 := decide_eq_true d9
        clear d9
        obtain ⟨y943, hy943⟩ : ∃ y_ : List Bool, y_ = (a3.set ((rd a0 0) : Int).toNat true) := ⟨_, rfl⟩
        replace H : (if a5.length < 17592186044416 then (Fx.l0 k1 l0 y943 (a5 ++ [rd a0 0])) else (none)) = some r := by first | (rw [hy943]; with_reducible exact H) | (have a8 := (Option.bind_some _ _).symm.trans H; rw [hy943]; with_reducible exact a8) | (have a8 := (Option.bind_some _ _).symm.trans H; with_reducible exact a8) | with_reducible exact H | (rw [hy943]; exact H) | exact H
        have d0 := am hy943
        clear hy943
        by_cases e0 : a5.length < 17592186044416
        ·
         rw [if_pos e0] at H
         have c9 := am e0
         clear e0
         obtain ⟨y945, hy945⟩ : ∃ y_ : List Int, y_ = (a5 ++ [rd a0 0]) := ⟨_, rfl⟩
         replace H : (Fx.l0 k1 l0 y943 y945) = some r := by first | (rw [hy945]; with_reducible exact H) | (have a8 := (Option.bind_some _ _).symm.trans H; rw [hy945]; with_reducible exact a8) | (have a8 := (Option.bind_some _ _).symm.trans H; with_reducible exact a8) | with_reducible exact H | (rw [hy945]; exact H) | exact H
         have d1 := am hy945
         clear hy945
         have H' := am H
         clear H
         obtain ⟨e1, b0, f3⟩ := Kd.R_slice a1.out
         subst f3
         go_wp2_with (first | ((with_reducible refine gC 88 ?_); refine gL 11 Try.func88 #[.slice A0 l0.length c0, .slice e1 a3.length b0] ?_; (with_reducible refine (Ge.calls k1 _ _ l0 _ _ a3 a0 _ ?side1 ?side2 ?side3 ?side4 A6.out).mono ?_); (case side1 => exact (Kd.C_below g6.out (pB HB.out))); (case side2 => exact g4.out); (case side3 => exact pC ((Kd.R_reads' a1.out).2.2)); (case side4 => exact (Kd.R_reads' a1.out).2.1); rintro e i1 ⟨g1, rfl, b4, hb⟩; refine ⟨_, rfl, ?_⟩; replace a1 := am (Kd.R_below (pR a1.out) hb); have a2 := am (Kd.R_lower (Kd.R_new' b4 (Kd.R_lt (pR a4.out))) (q0p (pB HB.out))); replace a4 := am (Kd.R_elder' (pR a4.out) (Kd.R_base b4) hb); replace HB := bS HB hb; (try clear hb); (try clear b4); obtain ⟨i3, e9, f4⟩ := Kd.R_slice a2.out; subst f4; have b5 : 0 ≤ (0 : Int) := (by omega); have b7 : 0 < (a0.length : Int) := od; obtain ⟨b2, f0, a6⟩ := Kd.at_int (Kd.R_reads' a2.out).2.2 0 b5 b7; cases f0; have h8 : (0 < a0.length) = True := eq_true (by omega); (try rw [show ((0 : Int)).toNat = 0 from rfl] at a6); (try rw [Addr.add_zero'] at a6); replace b5 := eq_true b5; replace b7 := eq_true b7; have f8 : 0 ≤ ((rd a0 0) : Int) := od; have f9 : ((rd a0 0) : Int) < ((a3.length : Int) : Int) := od; obtain ⟨a9, i9, d3, d4, f5, i7, b9⟩ := Kd.R_form a1.out (by omega); (first | cases d3 | (injection d3 with ea_ en_ ec_; (first | subst ea_ | (injection ea_ with ea_; subst ea_)); subst ec_; clear en_)); have e2 := am d4; have i5 := am b9; clear d4 f5 b9; obtain ⟨f7, f6⟩ := Kd.R_celln false a1.out ((rd a0 0) : Int) f8 f9; replace f8 := eq_true f8; replace f9 := eq_true f9; obtain ⟨h6, h7⟩ := Kd.R_celln false a1.out ((rd a0 0) : Int) (of_decide_eq_true (by first | (with_reducible assumption) | assumption)) (of_decide_eq_true (by first | (with_reducible assumption) | assumption)); have b3 := Kd.R_putg a1.out ((rd a0 0) : Int) true) | ((with_reducible refine q2g (t := 4) (p := 20) rfl ?_); refine q1y (t := 4) (p := 20) (v := ?vo_w20) (w1 := (i1.setCell ⟨a9, ((rd a0 0) : Int).toNat, none⟩ (.bool true))) ?hg ?ho ?hn ?hr ?_; (case ho => rfl); (case hg => rfl); (case hn => rfl); (case hr => first | (go_simp; done) | (go_simp; rfl)); intro g2 hw; have hg : i1.grownBy g2 (some a9) := (by rw [hw]; exact b3.2); have h4 : Kd.R Kd.bool 4 g2 w.heap.size (fun _ => True) (.slice (some ⟨a9, 0, none⟩) a3.length b0) y943 := (by rw [hw, d0.out]; exact b3.1); clear b3; replace a4 := am (Kd.R_over' (v := (.slice (some ⟨a9, 0, none⟩) a3.length b0)) (pR a4.out) (Kd.R_typed a1.out) (by decide) hg); replace a2 := am (Kd.R_over' (v := (.slice (some ⟨a9, 0, none⟩) a3.length b0)) (pR a2.out) (Kd.R_typed a1.out) (by decide) hg); replace a1 := am (h4); replace HB := am ((by rw [hw]; exact q0n (HB.out) e2.out : Below w.heap.size w g2)); clear hg hw h4; have b6 : 0 ≤ (0 : Int) := (by omega); have b8 : 0 < (a0.length : Int) := od; obtain ⟨d2, f1, a7⟩ := Kd.at_int (Kd.R_reads' a2.out).2.2 0 b6 b8; obtain rfl : b2 = d2 := (by injection f1); have h9 : (0 < a0.length) = True := eq_true (by omega); (try rw [show ((0 : Int)).toNat = 0 from rfl] at a7); (try rw [Addr.add_zero'] at a7); replace b6 := eq_true b6; replace b8 := eq_true b8) | ((with_reducible refine q3o (b := .append) (xs := #[.tmp 21, .tmp 25]) rfl ?_); at_builtin; refine Kd.R_append (Kd.int .i64) (w0 := w) w.heap.size rfl (.tmp 21) (.tmp 25) 47 3 (.int .i64 0) 8 rfl Try.underlying47 info3 rfl (by decide) (by omega) u4 a5 (rd a0 0) [.int .i64 (rd a0 0)] (fun k_ => some k_ ≠ (.slice (some b2) a0.length e9 : Value).ownBlock) (fun _ => False) rfl rfl ?aP (fun _ hk => hk.elim) ?aF ?aO ?aB ?aS ?aL ?_; (case aP => exact rfl); (case aB => exact (pB HB.out)); (case aF => exact (fun k_ hk => Kd.fresh' (Kd.R_lt (pR a2.out)) k_ hk)); (case aO => exact (by exact Kd.R_mono (pR a4.out) (fun _ hk => hk.2))); (case aS => exact (q0p (pB HB.out))); (case aL => have := c9.out; omega); intro j3 j4 ho hb hg h2; rw [← d1.out] at ho; replace a1 := am (Kd.R_over' (pR a1.out) (Kd.R_typed (pR a4.out)) (by decide) hg); replace a2 := am (Kd.R_after (ok := (fun _ => True)) (pR a2.out) hg h2); replace HB := am (hb); have c8 := am (ho); clear a4 ho hb hg h2))
         go_roundg k1
         case measure => have := g5.out; omega
         case rel => exact ⟨(y943), (y945), H', ⟨by have := g5.out; omega⟩, ⟨(pR a1.out)⟩, ⟨by exact Kd.R_mono (pR c8.out) (fun _ hk => trivial)⟩, ⟨pB HB.out⟩⟩
        rw [if_neg e0] at H
        exact absurd H (by simp)
       rw [if_neg d9] at H
       exact absurd H (by simp)
      rw [if_neg d8] at H
      exact absurd H (by simp)
     rw [if_neg d7] at H
     exact absurd H (by simp)
  rw [if_neg c3] at H
  exact absurd H (by simp)
 rw [if_neg c2] at H
 exact absurd H (by simp)
def F4.l0 : Nat → Int → Int → List Int → Int → Int → List Int → Int → Int → Int → Option (Bool)
 | 0, _, _, _, _, _, _, _, _, _ => none
 | k + 1, x1, x5, x9, a5, a4, a3, a0, a1, a2 => if a4 < a5 then (if 0 ≤ a4 then (if a4 < (x9.length : Int) then (if (rd x9 a4) ≤ x5 then (some false) else (if (rd x9 a4) ≥ x1 then (some false) else (F4.l0 k x1 (rd x9 a4) x9 a5 (wrap64 (a4 + 1)) a3 a0 a1 a2))) else (none)) else (none)) else (if a0 ≥ 1 then (if a0 ≤ 8 then (if a1 ≥ 0 then (if a1 ≤ 1048576 then (if a2 ≥ 1 then (some (decide (a2 ≤ 1048576))) else (some false)) else (some false)) else (some false)) else (some false)) else (some false))
def F4.f (k : Nat) (a0 : List Int) (a2 : Int) (a3 : Int) (a4 : Int) (a1 : Int) : Option (Bool) := F4.l0 k a1 (-1) a0 (a0.length : Int) 0 a0 a2 a3 a4
set_option maxHeartbeats 8000000 in
set_option maxRecDepth 100000 in
theorem F4.calls (k : Nat) (b3 : Option Addr) (b4 : Nat) (a4 : List Int) (a8 : Int) (a9 : Int) (b0 : Int) (a1 : Int) (r : Bool) (w : World) (b7 : Kd.C (Kd.int .i64) w b3 a4.length a4) (b6 : a4.length ≤ b4) (h : F4.f k a4 a8 a9 b0 a1 = some r) :
  Calls Try.prog 70 #[.agg #[.slice b3 a4.length b4, .int .i64 a8, .int .i64 a9, .int .i64 b0], .int .i64 a1] w fun e w' => e = .returned (.bool r) ∧ Below w.heap.size w w' := by
 have f4 := Try.underlying49
 have b1 := am b7
 have f0 := am b6
 clear b7 b6
 have HB := am (Below.refl w.heap.size w)
 unfold F4.f at h
 have H := h
 clear h
 have H' := am H
 clear H
 go_enter Try.func70, Try.ntmps70
 go_wp2_with (first | ((with_reducible refine gD 2 ?_); refine bz 2 #[.slice b3 a4.length b4, .int .i64 a8, .int .i64 a9, .int .i64 b0] 49 HB ?_; clear HB; intro b8 hg w3 hb a3 e6 HB; clear hb hg; have b9 := y4 a3))
 go_loopg [5, 11] k (fun kq v5 f5 w' => ∃ (b5 : Int) (a0 : Int), v5 = .int .i64 b5 ∧ f5 = .int .i64 a0 ∧ q0f (F4.l0 kq a1 b5 a4 (a4.length : Int) a0 a4 a8 a9 b0 = some r) ∧ q0f (kq ≤ k) ∧ q0f (w'.heap[b8]? = some (.cells #[(.slice b3 a4.length b4), .int .i64 a8, .int .i64 a9, .int .i64 b0] 49 (0, 0))) ∧ q0f (Below w.heap.size w w'))
 case atStart => exact ⟨((-1)), (0), el, el, H', ⟨Nat.le_refl _⟩, ⟨pk a3.out⟩, ⟨pB HB.out⟩⟩
 case round =>
  clear H'
  try clear b9
  try clear a3; try clear HB
  obtain ⟨b5, a0, rfl, rfl, HA, f1, a3, HB⟩ := hrel
  cases gk with
  | zero => exact absurd HA.out (by simp [F4.l0])
  | succ k1 =>
   have H := HA.out
   clear HA
   simp only [F4.l0] at H
   by_cases c5 : a0 < (a4.length : Int)
   ·
    rw [if_pos c5] at H
    have e7 := decide_eq_true c5
    clear c5
    by_cases c6 : 0 ≤ a0
    ·
     rw [if_pos c6] at H
     have f2 := decide_eq_true c6
     clear c6
     by_cases c7 : a0 < (a4.length : Int)
     ·
      rw [if_pos c7] at H
      have f3 := decide_eq_true c7
      clear c7
      by_cases c8 : (rd a4 a0) ≤ b5
      ·
       rw [if_pos c8] at H
       have e8 := decide_eq_true c8
       clear c8
       obtain rfl := Option.some.inj H
       have a5 : 0 ≤ (a0 : Int) := od
       have a6 : a0 < (a4.length : Int) := od
       obtain ⟨b2, a7, a2⟩ := Kd.at_int b1.out a0 a5 a6
       cases a7
       replace a2 := bX HB a2
       replace a5 := eq_true a5
       replace a6 := eq_true a6
       go_wp2
       go_ret
       exact ⟨er, pB HB.out⟩
      rw [if_neg c8] at H
      have e8 := decide_eq_false c8
      clear c8
      by_cases c9 : (rd a4 a0) ≥ a1
      ·
       rw [if_pos c9] at H
       have e9 := decide_eq_true c9
       clear c9
       obtain rfl := Option.some.inj H
       have a5 : 0 ≤ (a0 : Int) := od
       have a6 : a0 < (a4.length : Int) := od
       obtain ⟨b2, a7, a2⟩ := Kd.at_int b1.out a0 a5 a6
       cases a7
       replace a2 := bX HB a2
       replace a5 := eq_true a5
       replace a6 := eq_true a6
       go_wp2
       go_ret
       exact ⟨er, pB HB.out⟩
      rw [if_neg c9] at H
      have e9 := decide_eq_false c9
      clear c9
      have H' := am H
      clear H
      have a5 : 0 ≤ (a0 : Int) := od
      have a6 : a0 < (a4.length : Int) := od
      obtain ⟨b2, a7, a2⟩ := Kd.at_int b1.out a0 a5 a6
      cases a7
      replace a2 := bX HB a2
      replace a5 := eq_true a5
      replace a6 := eq_true a6
      go_wp2
      go_roundg k1
      case measure => have := f1.out; omega
      case rel => exact ⟨(rd a4 a0), (wrap64 (a0 + 1)), el, el, H', ⟨by have := f1.out; omega⟩, ⟨pk a3.out⟩, ⟨pB HB.out⟩⟩
     rw [if_neg c7] at H
     exact absurd H (by simp)
    rw [if_neg c6] at H
    exact absurd H (by simp)
   rw [if_neg c5] at H
   have e7 := decide_eq_false c5
   clear c5
   by_cases d0 : a8 ≥ 1
   ·
    rw [if_pos d0] at H
    have d5 := decide_eq_true d0
    clear d0
    by_cases d1 : a8 ≤ 8
    ·
     rw [if_pos d1] at H
     have d6 := decide_eq_true d1
     clear d1
     by_cases d2 : a9 ≥ 0
     ·
      rw [if_pos d2] at H
      have d7 := decide_eq_true d2
      clear d2
      by_cases d3 : a9 ≤ 1048576
      ·
       rw [if_pos d3] at H
       have d8 := decide_eq_true d3
       clear d3
       by_cases d4 : b0 ≥ 1
       ·
        rw [if_pos d4] at H
        have d9 := decide_eq_true d4
        clear d4
        obtain rfl := Option.some.inj H
        have e0 := y4 a3
        go_wp2
        go_ret
        exact ⟨er, pB HB.out⟩
       rw [if_neg d4] at H
       have d9 := decide_eq_false d4
       clear d4
       obtain rfl := Option.some.inj H
       have e1 := y4 a3
       go_wp2
       go_ret
       exact ⟨er, pB HB.out⟩
      rw [if_neg d3] at H
      have d8 := decide_eq_false d3
      clear d3
      obtain rfl := Option.some.inj H
      have e2 := y4 a3
      go_wp2
      go_ret
      exact ⟨er, pB HB.out⟩
     rw [if_neg d2] at H
     have d7 := decide_eq_false d2
     clear d2
     obtain rfl := Option.some.inj H
     have e3 := y4 a3
     go_wp2
     go_ret
     exact ⟨er, pB HB.out⟩
    rw [if_neg d1] at H
    have d6 := decide_eq_false d1
    clear d1
    obtain rfl := Option.some.inj H
    have e4 := y4 a3
    go_wp2
    go_ret
    exact ⟨er, pB HB.out⟩
   rw [if_neg d0] at H
   have d5 := decide_eq_false d0
   clear d0
   obtain rfl := Option.some.inj H
   have e5 := y4 a3
   go_wp2
   go_ret
   exact ⟨er, pB HB.out⟩
end Go.Proofs.Ytabmkighhmchmaa.X
namespace Go.Proofs.Ytabmkighhmchmaa
open Go.RowKit Go.YW.PrintWords Go.YW.PrintLast Go.YW.PrintMore Go.YW.Sq
open X (S49 k49 q0e q1q z49)
set_option linter.unusedVariables false
set_option maxHeartbeats 1000000 in
theorem task_test (k g : Nat) (n : Int) (A : Option Addr) (c : Nat) (t : S49) (b : Bool) (h : X.F4.f k t.f0 t.f1 t.f2 t.f3 n = some b) (w : World) (hr : Kd.C (Kd.int .i64) w A t.f0.length t.f0) (hc : t.f0.length ≤ c) (hg : w.heap[g]? = some (.cells #[.int .i64 n] 3 (0, 0))) :
    Calls Try.prog 69 #[.agg #[.slice A t.f0.length c, .int .i64 t.f1, .int .i64 t.f2, .int .i64 t.f3], .pointer (some ⟨g, 0, none⟩)] w fun e w' => e = .returned (.bool (!b)) ∧ Below w.heap.size w w' := by
  have a2 := Try.underlying49
  have HB := am (Below.refl w.heap.size w)
  have HR := am hr
  have HC := am hc
  have TH := am h
  have BG := am hg
  clear hr hc h hg
  obtain ⟨l, l1, l2, l3⟩ := t
  simp only at HR HC TH ⊢
  go_enter Try.func69, Try.ntmps69
  go_wp2_with (first | ((with_reducible refine q3b (N := 2) rfl ?_); refine q2p ?hg (N := 2) ?hd (cs := #[.slice A l.length c, .int .i64 l1, .int .i64 l2, .int .i64 l3]) (t := 49) ?hr ?_; (case hd => rfl); (case hg => rfl); (case hr => first | (go_simp; done) | (go_simp; rfl)); intro g2 hg w1 a0 hb; have NB := am (q0j (by repeat (first | (with_reducible first | exact HB.out | apply q0d | apply q0m | apply q0a) | exact HB.out)) hb); have X1 := am (q0b (o := .cells #[.int .i64 n] 3 (0, 0)) (by (with_reducible repeat (first | refine q0r ?_ _ | refine q0g ?_ | refine q0h ?_ _)); exact BG.out) hb); clear HB BG; have HB := NB; have BG := X1; have B2 := am a0; clear NB X1 hb a0 hg; have a3 : w1.cell? ⟨g2, 0, none⟩ = some (.slice A l.length c) := bc B2.out; have a4 : w1.cell? ⟨g2, 1, none⟩ = some (.int .i64 l1) := bc B2.out; have a5 : w1.cell? ⟨g2, 2, none⟩ = some (.int .i64 l2) := bc B2.out; have a6 : w1.cell? ⟨g2, 3, none⟩ = some (.int .i64 l3) := bc B2.out; have cg : w1.cell? ⟨g, 0, none⟩ = some (.int .i64 n) := bc BG.out) | (go_at_call 70; refine (X.F4.calls k A c l l1 l2 l3 n b _ (by repeat (first | exact (Kd.C_below HR.out HB.out) | (with_reducible refine Kd.C_alloc ?_ _) | (with_reducible refine Kd.C_drewN ?_ _) | (with_reducible refine Kd.C_drew ?_))) HC.out TH.out).mono ?_; rintro e w2 ⟨rfl, hb⟩; have a1 := am (q0j (by repeat (first | (with_reducible first | exact HB.out | apply q0d | apply q0m | apply q0a) | exact HB.out)) hb); clear hb))
  go_ret
  exact ⟨rfl, a1.out⟩
def anyT (k : Nat) (n : Int) : List S49 → Option Bool
  | [] => some false
  | t :: ts => (X.F4.f k t.f0 t.f1 t.f2 t.f3 n).bind fun b => if b = true then anyT k n ts else some true
def Fy.f (k : Nat) (nm : ByteArray) (l0 : List S49) : Option Int :=
  if 10 < l0.length then some 2 else if l0.length < 1 then some 1 else if nm.size < 1 then some 1 else if 16 < nm.size then some 1 else
    (anyT k (l0.length : Int) l0).bind fun b => if b = true then some 1 else (X.Fx.f k l0).bind fun o => if o.length < l0.length then some 160 else some 0
set_option maxHeartbeats 2000000 in
theorem hasT_idx (k g : Nat) (nn : Int) (A0 : Option Addr) (c0 : Nat) (l0 : List S49) (r : Bool) (w : World) (a6 : Kd.C k49 w A0 l0.length l0) (hl : l0.length ≤ 1000000) (h : anyT k nn l0 = some r) (hg : w.heap[g]? = some (.cells #[.int .i64 nn] 3 (0, 0))) :
    Calls Try.prog 87 #[.slice A0 l0.length c0, .func (.func 69) #[] #[.pointer (some ⟨g, 0, none⟩)]] w fun e w' => (∃ i : Int, e = .returned (.int .i64 i) ∧ decide (i ≥ 0) = r) ∧ Below w.heap.size w w' := by
  have b2 := Try.underlying49
  have HR := am a6
  have HL := am hl
  have HH := am h
  have BG := am hg
  clear hl h a6 hg
  obtain ⟨n, hn⟩ : ∃ n : Nat, l0.length = n := ⟨_, rfl⟩
  rw [hn] at HR HL ⊢
  have HN := am hn
  clear hn
  go_enter Try.func87, Try.ntmps87
  go_wp2
  go_loopw [8] (fun i wr => ∃ q : Nat, q ≤ n ∧ i = .int .i64 q ∧ q0f (anyT k nn (l0.drop q) = some r) ∧ q0f (Below w.heap.size w wr)) (fun i _ => n - (intOf i).toNat)
  case atStart => exact ⟨0, Nat.zero_le _, rfl, HH, ⟨Below.refl _ _⟩⟩
  case round =>
    obtain ⟨q, hk, rfl, HA, HB⟩ := hrel
    by_cases b3 : q < n
    · have hn := HN.out
      have b1 := HL.out
      obtain ⟨ad, A8, c8, rfl, a7, a8, a9, b0, a2, a3⟩ := q1q (Kd.C_below HR.out HB.out) (q : Int) (by omega) (by omega)
      have et : q0e l0 (q : Int) = l0[q]'(by omega) := by simp [q0e, List.getD_eq_getElem?_getD, List.getElem?_eq_getElem (show q < l0.length by omega)]
      have ha := HA.out
      rw [List.drop_eq_getElem_cons (by omega), anyT] at ha
      rw [et] at a7 a8 a9 b0 a2 a3
      have a5 := am a3
      have a4 := am a2
      have BW := am (q0b BG.out HB.out)
      clear a3 a2 et
      generalize l0[q]'(by omega) = t at *
      rw [Int.toNat_natCast] at a7 a8 a9 b0
      obtain ⟨b, hb, a0⟩ := Option.bind_eq_some_iff.1 ha
      have TT := am hb
      clear hb ha HA hn
      have HI := am (Below.refl wr.heap.size wr)
      cases b
      · rw [if_neg (by simp)] at a0
        obtain rfl := Option.some.inj a0
        clear a0
        go_wp2_with (go_at_call 69; refine (task_test k g nn A8 c8 t _ TT.out _ (by repeat (first | exact a5.out | (with_reducible refine Kd.C_alloc ?_ _) | (with_reducible refine Kd.C_drewN ?_ _) | (with_reducible refine Kd.C_drew ?_))) a4.out (by (with_reducible repeat (first | refine q0r ?_ _ | refine q0g ?_ | refine q0h ?_ _)); exact BW.out)).mono ?_; rintro e w1 ⟨rfl, hb⟩; have a1 := am (q0j (by repeat (first | (with_reducible first | exact HB.out | apply q0d | apply q0m | apply q0a) | exact HB.out)) hb); clear hb)
        go_ret
        exact ⟨⟨_, rfl, by simp⟩, a1.out⟩
      rw [if_pos rfl] at a0
      have HA := am a0
      clear a0
      go_wp2_with (go_at_call 69; refine (task_test k g nn A8 c8 t _ TT.out _ (by repeat (first | exact a5.out | (with_reducible refine Kd.C_alloc ?_ _) | (with_reducible refine Kd.C_drewN ?_ _) | (with_reducible refine Kd.C_drew ?_))) a4.out (by (with_reducible repeat (first | refine q0r ?_ _ | refine q0g ?_ | refine q0h ?_ _)); exact BW.out)).mono ?_; rintro e w1 ⟨rfl, hb⟩; have a1 := am (q0j (by repeat (first | (with_reducible first | exact HB.out | apply q0d | apply q0m | apply q0a) | exact HB.out)) hb); clear hb)
      go_roundw
      case rel => exact ⟨q + 1, by omega, by go_num, HA, a1⟩
      case measure => simp [intOf]; omega
    obtain rfl : q = n := by omega
    have ha := HA.out
    rw [List.drop_eq_nil_of_le (by rw [HN.out]; omega), anyT] at ha
    obtain rfl := Option.some.inj ha
    clear ha HA
    go_wp2
    go_ret
    exact ⟨⟨_, rfl, by simp⟩, HB.out⟩
theorem hasT_calls (k g : Nat) (nn : Int) (A0 : Option Addr) (c0 : Nat) (l0 : List S49) (r : Bool) (w : World) (a0 : Kd.C k49 w A0 l0.length l0) (hl : l0.length ≤ 1000000) (h : anyT k nn l0 = some r) (hg : w.heap[g]? = some (.cells #[.int .i64 nn] 3 (0, 0))) :
    Calls Try.prog 68 #[.slice A0 l0.length c0, .func (.func 69) #[] #[.pointer (some ⟨g, 0, none⟩)]] w fun e w' => e = .returned (.bool r) ∧ Below w.heap.size w w' := by
  have K := am (hasT_idx k g nn A0 c0 l0 r w a0 hl h hg)
  clear h a0 hg
  go_enter Try.func68, Try.ntmps68
  go_wp2_with (go_at_call 87; refine K.out.mono ?_; rintro e w1 ⟨⟨i, rfl, hi⟩, hb⟩; have HI := am hi; have a1 := am hb; clear hb hi)
  go_ret
  exact ⟨by rw [← HI.out]; rfl, a1.out⟩
set_option maxHeartbeats 4000000 in
set_option maxRecDepth 100000 in
theorem Fy.calls (k : Nat) (nm : ByteArray) (A0 : Option Addr) (c0 : Nat) (l0 : List S49) (r : Int) (w : World) (a4 : Kd.C k49 w A0 l0.length l0) (a3 : l0.length ≤ c0) (h : Fy.f k nm l0 = some r) :
    Calls Try.prog 29 #[.agg #[.string nm, .slice A0 l0.length c0]] w fun e w' => e = .returned (.int .i64 r) ∧ Below w.heap.size w w' := by
  have a7 := Try.underlying24
  have HR := am a4
  have HC := am a3
  have HB := am (Below.refl w.heap.size w)
  unfold Fy.f at h
  clear a4 a3
  go_enter Try.func29, Try.ntmps29
  go_upto_region 2 with (first | ((with_reducible refine q3b (N := 1) rfl ?_); refine q2p ?hg (N := 1) ?hd (cs := #[.string nm, .slice A0 l0.length c0]) (t := 24) ?hr ?_; (case hd => rfl); (case hg => rfl); (case hr => first | (go_simp; done) | (go_simp; rfl)); intro g1 hg w1 a0 hb; have G1 := am (show w.heap.size ≤ g1 by rw [hg]; exact q0p (by repeat (first | (with_reducible first | exact HB.out | apply q0d | apply q0m | apply q0a) | exact HB.out))); have NB := am (q0j (by repeat (first | (with_reducible first | exact HB.out | apply q0d | apply q0m | apply q0a) | exact HB.out)) hb); clear HB; have HB := NB; have B1 := am a0; clear NB hb a0 hg; have b0 : w1.cell? ⟨g1, 0, none⟩ = some (.string nm) := bc B1.out; have b1 : w1.cell? ⟨g1, 1, none⟩ = some (.slice A0 l0.length c0) := bc B1.out) | ((with_reducible refine q3b (N := 3) rfl ?_); refine q2p ?hg (N := 3) ?hd (cs := #[.int .i64 0]) (t := 3) ?hr ?_; (case hd => rfl); (case hg => rfl); (case hr => first | (go_simp; done) | (go_simp; rfl)); intro g3 hg w2 a0 hb; have G3 := am (show w.heap.size ≤ g3 by rw [hg]; exact q0p (by repeat (first | (with_reducible first | exact HB.out | apply q0d | apply q0m | apply q0a) | exact HB.out))); have X1 := am (q0b (o := .cells #[.string nm, .slice A0 l0.length c0] 24 (0, 0)) (by (with_reducible repeat (first | refine q0r ?_ _ | refine q0g ?_ | refine q0h ?_ _)); exact B1.out) hb); have a1 := am (show g1 ≠ g3 by rw [hg]; exact Nat.ne_of_lt (q2h (o := .cells #[.string nm, .slice A0 l0.length c0] 24 (0, 0)) (by (with_reducible repeat (first | refine q0r ?_ _ | refine q0g ?_ | refine q0h ?_ _)); exact B1.out))); have NB := am (q0j (by repeat (first | (with_reducible first | exact HB.out | apply q0d | apply q0m | apply q0a) | exact HB.out)) hb); clear HB B1; have HB := NB; have B1 := X1; have B3 := am a0; clear NB X1 hb a0 hg; have a5 : w2.cell? ⟨g3, 0, none⟩ = some (.int .i64 0) := bc B3.out; have a6 := q0k B3.out 0))
  have X3 := am (show (w2.setCell ⟨g3, 0, none⟩ (.int .i64 (l0.length : Int))).heap[g3]? = some (.cells #[.int .i64 (l0.length : Int)] 3 (0, 0)) from q0o (cs := #[.int .i64 0]) B3.out 0 _ rfl)
  have X1 := am (show (w2.setCell ⟨g3, 0, none⟩ (.int .i64 (l0.length : Int))).heap[g1]? = some (.cells #[.string nm, .slice A0 l0.length c0] 24 (0, 0)) from q0l B1.out a1.out _)
  have XB := am (show Below w.heap.size w (w2.setCell ⟨g3, 0, none⟩ (.int .i64 (l0.length : Int))) from q0n HB.out G3.out)
  clear HB B1 B3 a5 a6 b0 b1
  have HB := XB
  have B1 := X1
  have B3 := X3
  clear XB X1 X3
  generalize w2.setCell ⟨g3, 0, none⟩ (.int .i64 (l0.length : Int)) = w3 at *
  have b0 : w3.cell? ⟨g1, 0, none⟩ = some (.string nm) := bc B1.out; have b1 : w3.cell? ⟨g1, 1, none⟩ = some (.slice A0 l0.length c0) := bc B1.out; have b3 : w3.cell? ⟨g3, 0, none⟩ = some (.int .i64 (l0.length : Int)) := bc B3.out
  have a8 := a1.out
  have a9 := a1.out.symm
  by_cases h1 : 10 < l0.length
  · rw [if_pos h1] at h
    obtain rfl := Option.some.inj h
    have e1 : decide ((10 : Int) < (l0.length : Int)) = true := decide_eq_true (by omega)
    go_wp2
    go_ret
    exact ⟨rfl, HB.out⟩
  rw [if_neg h1] at h
  have HL : q0f (l0.length ≤ 10) := ⟨by omega⟩
  have e1 : decide ((10 : Int) < (l0.length : Int)) = false := decide_eq_false (by omega)
  by_cases h2 : l0.length < 1
  · rw [if_pos h2] at h
    obtain rfl := Option.some.inj h
    have e2 : decide ((l0.length : Int) < 1) = true := decide_eq_true (by omega)
    go_wp2
    go_ret
    exact ⟨rfl, HB.out⟩
  rw [if_neg h2] at h
  have e2 : decide ((l0.length : Int) < 1) = false := decide_eq_false (by omega)
  by_cases h3 : nm.size < 1
  · rw [if_pos h3] at h
    obtain rfl := Option.some.inj h
    have e3 : decide ((nm.size : Int) < 1) = true := decide_eq_true (by omega)
    go_wp2
    go_ret
    exact ⟨rfl, HB.out⟩
  rw [if_neg h3] at h
  have e3 : decide ((nm.size : Int) < 1) = false := decide_eq_false (by omega)
  by_cases h4 : 16 < nm.size
  · rw [if_pos h4] at h
    obtain rfl := Option.some.inj h
    have e4 : decide ((16 : Int) < (nm.size : Int)) = true := decide_eq_true (by omega)
    go_wp2
    go_ret
    exact ⟨rfl, HB.out⟩
  rw [if_neg h4] at h
  have e4 : decide ((16 : Int) < (nm.size : Int)) = false := decide_eq_false (by omega)
  obtain ⟨b, a2, h⟩ := Option.bind_eq_some_iff.1 h
  have TA := am a2
  clear a2 h1 h2 h3 h4
  cases b
  case true =>
    rw [if_pos rfl] at h
    obtain rfl := Option.some.inj h
    go_wp2_with (go_at_call 68; refine (hasT_calls k g3 (l0.length : Int) A0 c0 l0 _ _ (by repeat (first | exact (Kd.C_below HR.out HB.out) | (with_reducible refine Kd.C_alloc ?_ _) | (with_reducible refine Kd.C_drewN ?_ _) | (with_reducible refine Kd.C_drew ?_))) (by have := HL.out; omega) TA.out (by (with_reducible repeat (first | refine q0r ?_ _ | refine q0g ?_ | refine q0h ?_ _)); exact B3.out)).mono ?_; rintro e w4 ⟨rfl, hb⟩; have X1 := am (q0b (o := .cells #[.string nm, .slice A0 l0.length c0] 24 (0, 0)) (by (with_reducible repeat (first | refine q0r ?_ _ | refine q0g ?_ | refine q0h ?_ _)); exact B1.out) hb); have X3 := am (q0b (o := .cells #[.int .i64 (l0.length : Int)] 3 (0, 0)) (by (with_reducible repeat (first | refine q0r ?_ _ | refine q0g ?_ | refine q0h ?_ _)); exact B3.out) hb); have XB := am (q0j (by repeat (first | (with_reducible first | exact HB.out | apply q0d | apply q0m | apply q0a) | exact HB.out)) hb); clear hb B1 B3 HB; have B1 := X1; have B3 := X3; have HB := XB; clear X1 X3 XB; have b0 : w4.cell? ⟨g1, 0, none⟩ = some (.string nm) := bc B1.out; have b1 : w4.cell? ⟨g1, 1, none⟩ = some (.slice A0 l0.length c0) := bc B1.out; have b3 : w4.cell? ⟨g3, 0, none⟩ = some (.int .i64 (l0.length : Int)) := bc B3.out)
    go_ret
    exact ⟨rfl, HB.out⟩
  rw [if_neg (by simp)] at h
  obtain ⟨o, ho, h⟩ := Option.bind_eq_some_iff.1 h
  have TO := am ho
  clear ho
  go_upto_region 6 with (go_at_call 68; refine (hasT_calls k g3 (l0.length : Int) A0 c0 l0 _ _ (by repeat (first | exact (Kd.C_below HR.out HB.out) | (with_reducible refine Kd.C_alloc ?_ _) | (with_reducible refine Kd.C_drewN ?_ _) | (with_reducible refine Kd.C_drew ?_))) (by have := HL.out; omega) TA.out (by (with_reducible repeat (first | refine q0r ?_ _ | refine q0g ?_ | refine q0h ?_ _)); exact B3.out)).mono ?_; rintro e w4 ⟨rfl, hb⟩; have X1 := am (q0b (o := .cells #[.string nm, .slice A0 l0.length c0] 24 (0, 0)) (by (with_reducible repeat (first | refine q0r ?_ _ | refine q0g ?_ | refine q0h ?_ _)); exact B1.out) hb); have X3 := am (q0b (o := .cells #[.int .i64 (l0.length : Int)] 3 (0, 0)) (by (with_reducible repeat (first | refine q0r ?_ _ | refine q0g ?_ | refine q0h ?_ _)); exact B3.out) hb); have XB := am (q0j (by repeat (first | (with_reducible first | exact HB.out | apply q0d | apply q0m | apply q0a) | exact HB.out)) hb); clear hb B1 B3 HB; have B1 := X1; have B3 := X3; have HB := XB; clear X1 X3 XB; have b0 : w4.cell? ⟨g1, 0, none⟩ = some (.string nm) := bc B1.out; have b1 : w4.cell? ⟨g1, 1, none⟩ = some (.slice A0 l0.length c0) := bc B1.out; have b3 : w4.cell? ⟨g3, 0, none⟩ = some (.int .i64 (l0.length : Int)) := bc B3.out)
  by_cases h5 : o.length < l0.length
  · rw [if_pos h5] at h
    obtain rfl := Option.some.inj h
    have e5 : decide ((o.length : Int) < (l0.length : Int)) = true := decide_eq_true (by omega)
    go_region_with (go_at_call 71; refine (X.Fx.calls k A0 c0 l0 o _ (by repeat (first | exact (Kd.C_below HR.out HB.out) | (with_reducible refine Kd.C_alloc ?_ _) | (with_reducible refine Kd.C_drewN ?_ _) | (with_reducible refine Kd.C_drew ?_))) HC.out TO.out).mono ?_; rintro e w5 ⟨v, rfl, ho, hb⟩; obtain ⟨Ao, co, rfl⟩ := Kd.R_slice ho; clear ho; have X1 := am (q0b (o := .cells #[.string nm, .slice A0 l0.length c0] 24 (0, 0)) (by (with_reducible repeat (first | refine q0r ?_ _ | refine q0g ?_ | refine q0h ?_ _)); exact B1.out) hb); have X3 := am (q0b (o := .cells #[.int .i64 (l0.length : Int)] 3 (0, 0)) (by (with_reducible repeat (first | refine q0r ?_ _ | refine q0g ?_ | refine q0h ?_ _)); exact B3.out) hb); have XB := am (q0j (by repeat (first | (with_reducible first | exact HB.out | apply q0d | apply q0m | apply q0a) | exact HB.out)) hb); clear hb B1 B3 HB; have B1 := X1; have B3 := X3; have HB := XB; clear X1 X3 XB; have b0 : w5.cell? ⟨g1, 0, none⟩ = some (.string nm) := bc B1.out; have b1 : w5.cell? ⟨g1, 1, none⟩ = some (.slice A0 l0.length c0) := bc B1.out; have b3 : w5.cell? ⟨g3, 0, none⟩ = some (.int .i64 (l0.length : Int)) := bc B3.out)
    all_goals
      first
        | (exfalso; omega)
        | (go_wp2
           go_ret
           exact ⟨rfl, (by repeat (first | (with_reducible first | exact HB.out | apply q0d | apply q0m | apply q0a) | exact HB.out))⟩)
  rw [if_neg h5] at h
  obtain rfl := Option.some.inj h
  have e5 : decide ((o.length : Int) < (l0.length : Int)) = false := decide_eq_false (by omega)
  go_region_with (go_at_call 71; refine (X.Fx.calls k A0 c0 l0 o _ (by repeat (first | exact (Kd.C_below HR.out HB.out) | (with_reducible refine Kd.C_alloc ?_ _) | (with_reducible refine Kd.C_drewN ?_ _) | (with_reducible refine Kd.C_drew ?_))) HC.out TO.out).mono ?_; rintro e w5 ⟨v, rfl, ho, hb⟩; obtain ⟨Ao, co, rfl⟩ := Kd.R_slice ho; clear ho; have X1 := am (q0b (o := .cells #[.string nm, .slice A0 l0.length c0] 24 (0, 0)) (by (with_reducible repeat (first | refine q0r ?_ _ | refine q0g ?_ | refine q0h ?_ _)); exact B1.out) hb); have X3 := am (q0b (o := .cells #[.int .i64 (l0.length : Int)] 3 (0, 0)) (by (with_reducible repeat (first | refine q0r ?_ _ | refine q0g ?_ | refine q0h ?_ _)); exact B3.out) hb); have XB := am (q0j (by repeat (first | (with_reducible first | exact HB.out | apply q0d | apply q0m | apply q0a) | exact HB.out)) hb); clear hb B1 B3 HB; have B1 := X1; have B3 := X3; have HB := XB; clear X1 X3 XB; have b0 : w5.cell? ⟨g1, 0, none⟩ = some (.string nm) := bc B1.out; have b1 : w5.cell? ⟨g1, 1, none⟩ = some (.slice A0 l0.length c0) := bc B1.out; have b3 : w5.cell? ⟨g3, 0, none⟩ = some (.int .i64 (l0.length : Int)) := bc B3.out)
  all_goals
    first
      | (exfalso; omega)
      | (go_wp2
         go_ret
         exact ⟨rfl, (by repeat (first | (with_reducible first | exact HB.out | apply q0d | apply q0m | apply q0a) | exact HB.out))⟩)
end Go.Proofs.Ytabmkighhmchmaa
namespace Go.Proofs.Ytabmkighhmchmaa.X
open Go.RowKit Go.YW.PrintWords Go.YW.PrintLast Go.YW.PrintMore Go.YW.Sq
attribute [local go_sem] q0y q0w q1g q1f q0t q0s q0x q0v
set_option linter.unusedVariables false
set_option linter.unusedSimpArgs false
theorem eqA51 (d : Nat) (w : World) (x0 y0 : Int) (x1 y1 : Int) (x2 y2 : Int) (x3 y3 : Int) (x4 y4 : ByteArray) :
  (Op.equalIn (d + 2) 51 (.agg #[.int .i64 x0, .int .i64 x1, .int .i64 x2, .int .i64 x3, .string x4]) (.agg #[.int .i64 y0, .int .i64 y1, .int .i64 y2, .int .i64 y3, .string y4])).run Try.prog w = .ok (x0 == y0 && (x1 == y1 && (x2 == y2 && (x3 == y3 && (x4.toList == y4.toList))))) w := by
 refine eqA_of Try.underlying51 (by kernel_rfl) ?_
 refine eqf_cons (by rfl) (by go_simp; rfl) (by go_simp; rfl) (by go_simp) ?_
 refine eqf_cons (by rfl) (by go_simp; rfl) (by go_simp; rfl) (by go_simp) ?_
 refine eqf_cons (by rfl) (by go_simp; rfl) (by go_simp; rfl) (by go_simp) ?_
 refine eqf_cons (by rfl) (by go_simp; rfl) (by go_simp; rfl) (by go_simp) ?_
 exact eqf_last (by rfl) (by go_simp; rfl) (by go_simp; rfl) (by go_simp)
def Fu.j0 : Nat → Bool → Int → Int → Int → Int → ByteArray → Option (Bool)
 | 0, _, _, _, _, _, _ => none
 | k + 1, a5, a1, a3, a4, a0, a2 => if a5 = true then (some false) else (if a0 < 0 then (some false) else (if a0 > 1099511627776 then (some false) else (if ((decide (a0 > 0)) != (a1 == 2)) = true then (some false) else (if (a2.size : Int) ≤ 16 then (if a2.toList = ([] : List UInt8) then (some true) else (some (a1 == 3))) else (some false)))))
def Fu.f (k : Nat) (a0 : Int) (a1 : Int) (a2 : Int) (a3 : Int) (a4 : ByteArray) : Option (Bool) := if a0 < 0 then (Fu.j0 k true a0 a1 a2 a3 a4) else (if a0 > 5 then (Fu.j0 k true a0 a1 a2 a3 a4) else (if a1 < 0 then (Fu.j0 k true a0 a1 a2 a3 a4) else (if a1 > 8 then (Fu.j0 k true a0 a1 a2 a3 a4) else (if a2 < 0 then (Fu.j0 k true a0 a1 a2 a3 a4) else (Fu.j0 k (decide (a2 > 1099511627776)) a0 a1 a2 a3 a4)))))
set_option maxHeartbeats 8000000 in
set_option maxRecDepth 100000 in
theorem Fu.calls (k : Nat) (a1 : Int) (a4 : Int) (a5 : Int) (a2 : Int) (a3 : ByteArray) (r : Bool) (w : World) (h : Fu.f k a1 a4 a5 a2 a3 = some r) :
  Calls Try.prog 79 #[.agg #[.int .i64 a1, .int .i64 a4, .int .i64 a5, .int .i64 a2, .string a3]] w fun e w' => e = .returned (.bool r) ∧ Below w.heap.size w w' := by
 have f3 := Try.underlying51
 have HB := am (Below.refl w.heap.size w)
 unfold Fu.f at h
 have H := h
 clear h
 have e5 := am H
 clear H
 go_enter Try.func79, Try.ntmps79
 go_upto_region 1 with (first | ((with_reducible refine gD 1 ?_); refine bz 1 #[.int .i64 a1, .int .i64 a4, .int .i64 a5, .int .i64 a2, .string a3] 51 HB ?_; clear HB; intro d4 hg w3 hb a0 f1 HB; clear hb hg))
 (try simp only [Act.put, List.setIfInBounds_toArray, List.set_cons_zero, List.set_cons_succ])
 go_cut [30] (fun f4 wc => ∃ (kq : Nat) (a6 : Bool), f4 = .bool a6 ∧ q0f (Fu.j0 kq a6 a1 a4 a5 a2 a3 = some r) ∧ q0f (kq ≤ k) ∧ q0f (wc.heap[d4]? = some (.cells #[.int .i64 a1, .int .i64 a4, .int .i64 a5, .int .i64 a2, .string a3] 51 (0, 0))) ∧ q0f (Below w.heap.size w wc))
 case first =>
  have H := e5.out
  clear e5
  by_cases c4 : a1 < 0
  ·
   rw [if_pos c4] at H
   have a8 := decide_eq_true c4
   clear c4
   (first | rw [a8] | (simp only [q2r, q2u]; rw [a8]) | skip)
   have H' := am H
   clear H
   have e8 := y5 a0
   go_wp2
   go_meet
   case rel => exact ⟨_, (true), el, H', ol, ⟨pk a0.out⟩, ⟨pB HB.out⟩⟩
  rw [if_neg c4] at H
  have a8 := decide_eq_false c4
  clear c4
  (first | rw [a8] | (simp only [q2r, q2u]; rw [a8]) | skip)
  by_cases c6 : a1 > 5
  ·
   rw [if_pos c6] at H
   have e6 := decide_eq_true c6
   clear c6
   have H' := am H
   clear H
   have e9 := y5 a0
   go_wp2
   go_meet
   case rel => exact ⟨_, (true), el, H', ol, ⟨pk a0.out⟩, ⟨pB HB.out⟩⟩
  rw [if_neg c6] at H
  have e6 := decide_eq_false c6
  clear c6
  by_cases c8 : a4 < 0
  ·
   rw [if_pos c8] at H
   have e7 := decide_eq_true c8
   clear c8
   have H' := am H
   clear H
   have f0 := y5 a0
   go_wp2
   go_meet
   case rel => exact ⟨_, (true), el, H', ol, ⟨pk a0.out⟩, ⟨pB HB.out⟩⟩
  rw [if_neg c8] at H
  have e7 := decide_eq_false c8
  clear c8
  by_cases b0 : a4 > 8
  ·
   rw [if_pos b0] at H
   have b5 := decide_eq_true b0
   clear b0
   have H' := am H
   clear H
   have d6 := y5 a0
   go_wp2
   go_meet
   case rel => exact ⟨_, (true), el, H', ol, ⟨pk a0.out⟩, ⟨pB HB.out⟩⟩
  rw [if_neg b0] at H
  have b5 := decide_eq_false b0
  clear b0
  by_cases b1 : a5 < 0
  ·
   rw [if_pos b1] at H
   have b6 := decide_eq_true b1
   clear b1
   have H' := am H
   clear H
   have d7 := y5 a0
   go_wp2
   go_meet
   case rel => exact ⟨_, (true), el, H', ol, ⟨pk a0.out⟩, ⟨pB HB.out⟩⟩
  rw [if_neg b1] at H
  have b6 := decide_eq_false b1
  clear b1
  have H' := am H
  clear H
  have d8 := y5 a0
  go_wp2
  go_meet
  case rel => exact ⟨_, (decide (a5 > 1099511627776)), el, H', ol, ⟨pk a0.out⟩, ⟨pB HB.out⟩⟩
 case rest =>
  clear e5
  obtain ⟨kq, a6, rfl, HA, f5, a0, HB⟩ := hcut
  cases kq with
  | zero => exact absurd HA.out (by simp [Fu.j0])
  | succ f6 =>
   have H := HA.out
   clear HA
   simp only [Fu.j0] at H
   by_cases d5 : a6 = true
   ·
    subst d5
    rw [if_pos rfl] at H
    try dsimp only at H
    obtain rfl := Option.some.inj H
    go_wp2
    go_ret
    exact ⟨er, pB HB.out⟩
   replace d5 := Bool.eq_false_iff.mpr d5
   subst d5
   rw [if_neg (show ¬ (false = true) by decide)] at H
   try dsimp only at H
   by_cases b2 : a2 < 0
   ·
    rw [if_pos b2] at H
    have b7 := decide_eq_true b2
    clear b2
    obtain rfl := Option.some.inj H
    have d9 := y5 a0
    go_wp2
    go_ret
    exact ⟨er, pB HB.out⟩
   rw [if_neg b2] at H
   have b7 := decide_eq_false b2
   clear b2
   by_cases b3 : a2 > 1099511627776
   ·
    rw [if_pos b3] at H
    have b8 := decide_eq_true b3
    clear b3
    obtain rfl := Option.some.inj H
    have e0 := y5 a0
    go_wp2
    go_ret
    exact ⟨er, pB HB.out⟩
   rw [if_neg b3] at H
   have b8 := decide_eq_false b3
   clear b3
   by_cases a7 : ((decide (a2 > 0)) != (a1 == 2)) = true
   ·
    rw [if_pos a7] at H
    have b9 : ((decide (a2 > 0)) != (a1 == 2)) = true := a7
    (try (have c7 : decide ((decide (a2 > 0)) = (a1 == 2)) = false := by simpa using a7))
    (try (have c9 : ((decide (a2 > 0)) == (a1 == 2)) = false := by simpa using a7))
    (try (have f2 : ¬ ((decide (a2 > 0)) = (a1 == 2)) := by simpa using a7))
    clear a7
    obtain rfl := Option.some.inj H
    have e1 := y5 a0
    go_wp2
    go_ret
    exact ⟨er, pB HB.out⟩
   rw [if_neg a7] at H
   have b9 : ((decide (a2 > 0)) != (a1 == 2)) = false := by simpa using a7
   (try (have c7 : decide ((decide (a2 > 0)) = (a1 == 2)) = true := by simpa using a7))
   (try (have c9 : ((decide (a2 > 0)) == (a1 == 2)) = true := by simpa using a7))
   clear a7
   by_cases b4 : (a3.size : Int) ≤ 16
   ·
    rw [if_pos b4] at H
    have d0 := decide_eq_true b4
    have d1 : decide (a3.size ≤ 16) = true := decide_eq_true (by omega)
    clear b4
    by_cases a9 : a3.toList = ([] : List UInt8)
    ·
     rw [if_pos a9] at H
     have d2 := beq_iff_eq.mpr a9
     have d3 := bne_eq_false_iff_eq.mpr a9
     clear a9
     obtain rfl := Option.some.inj H
     have e2 := y5 a0
     go_wp2
     go_ret
     exact ⟨er, pB HB.out⟩
    rw [if_neg a9] at H
    have d2 := beq_eq_false_iff_ne.mpr a9
    have d3 := bne_iff_ne.mpr a9
    obtain rfl := Option.some.inj H
    have e3 := y5 a0
    go_wp2
    go_ret
    exact ⟨er, pB HB.out⟩
   rw [if_neg b4] at H
   have d0 := decide_eq_false b4
   have d1 : decide (a3.size ≤ 16) = false := decide_eq_false (by omega)
   clear b4
   obtain rfl := Option.some.inj H
   have e4 := y5 a0
   go_wp2
   go_ret
   exact ⟨er, pB HB.out⟩
end Go.Proofs.Ytabmkighhmchmaa.X
namespace Go.Proofs.Ytabmkighhmchmaa.X
open Go.RowKit Go.YW.PrintWords Go.YW.PrintLast Go.YW.PrintMore Go.YW.Sq
attribute [local go_sem] q0y q0w q1g q1f q0t q0s q0x q0v
set_option linter.unusedVariables false
set_option linter.unusedSimpArgs false
attribute [local go_sem high] eqA51
def Fz.j0 : Nat → Bool → List Int → Int → Int → Int → Int → Int → Int → Int → ByteArray → Option (Bool)
 | 0, _, _, _, _, _, _, _, _, _, _ => none
 | k + 1, a9, a6, a3, a7, a8, a0, a1, a2, a4, a5 => if a9 = true then (some false) else (if a0 = 0 then (some (a0 == 0 && (a1 == 0 && (a2 == 0 && (a4 == 0 && (a5.toList == ([] : List UInt8))))))) else (if a0 = 1 then (some (decide (a1 < a3))) else (if a0 = 2 then (some (decide (a1 ≥ 1))) else (if a0 = 4 then (if a1 = a3 then (some (a2 == 0)) else (some false)) else (if a0 = 5 then (some (a2 == 0)) else (if a1 ≥ 1 then (some (a2 == 0)) else (some false)))))))
def Fz.f (k : Nat) (a8 : List Int) (a1 : Int) (a6 : Int) (a7 : Int) (a2 : Int) (a0 : Int) (a3 : Int) (a4 : Int) (a5 : ByteArray) : Option (Bool) := (Fu.f k a2 a0 a3 a4 a5).bind fun a9 => (if a9 = true then (Fz.j0 k (decide (a0 > a1)) a8 a1 a6 a7 a2 a0 a3 a4 a5) else (Fz.j0 k true a8 a1 a6 a7 a2 a0 a3 a4 a5))
set_option maxHeartbeats 8000000 in
set_option maxRecDepth 100000 in
theorem Fz.calls (k : Nat) (b3 : Option Addr) (b4 : Nat) (a8 : List Int) (a9 : Int) (b1 : Int) (b2 : Int) (a3 : Int) (a4 : Int) (a5 : Int) (a6 : Int) (a7 : ByteArray) (r : Bool) (w : World) (b6 : Kd.C (Kd.int .i64) w b3 a8.length a8) (b5 : a8.length ≤ b4) (h : Fz.f k a8 a9 b1 b2 a3 a4 a5 a6 a7 = some r) :
  Calls Try.prog 44 #[.agg #[.slice b3 a8.length b4, .int .i64 a9, .int .i64 b1, .int .i64 b2], .agg #[.int .i64 a3, .int .i64 a4, .int .i64 a5, .int .i64 a6, .string a7]] w fun e w' => e = .returned (.bool r) ∧ Below w.heap.size w w' := by
 have i1 := Try.underlying49
 have i2 := Try.underlying51
 have g9 := am b6
 have g8 := am b5
 clear b6 b5
 have HB := am (Below.refl w.heap.size w)
 unfold Fz.f at h
 have H := h
 clear h
 have g2 := am H
 clear H
 go_enter Try.func44, Try.ntmps44
 go_upto_region 1 with (first | ((with_reducible refine gD 2 ?_); refine bz 2 #[.slice b3 a8.length b4, .int .i64 a9, .int .i64 b1, .int .i64 b2] 49 HB ?_; clear HB; intro e5 hg w4 hb a2 g6 HB; clear hb hg) | ((with_reducible refine gD 3 ?_); refine bz 3 #[.int .i64 a3, .int .i64 a4, .int .i64 a5, .int .i64 a6, .string a7] 51 HB ?_; clear HB; intro e6 hg w5 hb a1 g7 HB; have b7 := nL hg a2; have a0 := nG hg a2; replace a2 := kB a2 hb; clear hb hg))
 (try simp only [Act.put, List.setIfInBounds_toArray, List.set_cons_zero, List.set_cons_succ])
 go_cut [14] (fun i3 wc => ∃ (kq : Nat) (b0 : Bool), i3 = .bool b0 ∧ q0f (Fz.j0 kq b0 a8 a9 b1 b2 a3 a4 a5 a6 a7 = some r) ∧ q0f (kq ≤ k) ∧ q0f (wc.heap[e5]? = some (.cells #[(.slice b3 a8.length b4), .int .i64 a9, .int .i64 b1, .int .i64 b2] 49 (0, 0))) ∧ q0f (wc.heap[e6]? = some (.cells #[.int .i64 a3, .int .i64 a4, .int .i64 a5, .int .i64 a6, .string a7] 51 (0, 0))) ∧ q0f (Below w.heap.size w wc))
 case first =>
  have H := g2.out
  clear g2
  replace H := Option.bind_eq_some_iff.mp H
  obtain ⟨g4, g5, H⟩ := H
  try dsimp only at H
  have A6 := am g5
  clear g5
  by_cases c7 : g4 = true
  ·
   subst c7
   rw [if_pos rfl] at H
   try dsimp only at H
   have H' := am H
   clear H
   have i0 := nn a0
   have g3 := y5 a1
   go_wp2_with (first | ((with_reducible refine gC 79 ?_); refine gL 6 Try.func79 #[.agg #[.int .i64 a3, .int .i64 a4, .int .i64 a5, .int .i64 a6, .string a7]] ?_; (with_reducible refine (Fu.calls k a3 a4 a5 a6 a7 true _ A6.out).mono ?_); rintro e i6 ⟨rfl, hb⟩; refine ⟨_, rfl, ?_⟩; replace a2 := kB a2 hb; replace a1 := kB a1 hb; replace HB := bS HB hb; (try clear hb); have e8 := y5 a1; have e9 := y4 a2))
   go_meet
   case rel => exact ⟨_, (decide (a4 > a9)), el, H', ol, ⟨pk a2.out⟩, ⟨pk a1.out⟩, ⟨pB HB.out⟩⟩
  replace c7 := Bool.eq_false_iff.mpr c7
  subst c7
  rw [if_neg (show ¬ (false = true) by decide)] at H
  try dsimp only at H
  have H' := am H
  clear H
  have h0 := nn a0
  have f0 := y5 a1
  go_wp2_with (first | ((with_reducible refine gC 79 ?_); refine gL 6 Try.func79 #[.agg #[.int .i64 a3, .int .i64 a4, .int .i64 a5, .int .i64 a6, .string a7]] ?_; (with_reducible refine (Fu.calls k a3 a4 a5 a6 a7 false _ A6.out).mono ?_); rintro e i7 ⟨rfl, hb⟩; refine ⟨_, rfl, ?_⟩; replace a2 := kB a2 hb; replace a1 := kB a1 hb; replace HB := bS HB hb; (try clear hb)))
  go_meet
  case rel => exact ⟨_, (true), el, H', ol, ⟨pk a2.out⟩, ⟨pk a1.out⟩, ⟨pB HB.out⟩⟩
 case rest =>
  clear g2
  obtain ⟨kq, b0, rfl, HA, i4, a2, a1, HB⟩ := hcut
  cases kq with
  | zero => exact absurd HA.out (by simp [Fz.j0])
  | succ i5 =>
   have H := HA.out
   clear HA
   simp only [Fz.j0] at H
   by_cases e7 : b0 = true
   ·
    subst e7
    rw [if_pos rfl] at H
    try dsimp only at H
    obtain rfl := Option.some.inj H
    go_wp2
    go_ret
    exact ⟨er, pB HB.out⟩
   replace e7 := Bool.eq_false_iff.mpr e7
   subst e7
   rw [if_neg (show ¬ (false = true) by decide)] at H
   try dsimp only at H
   by_cases b9 : a3 = 0
   ·
    rw [if_pos b9] at H
    obtain ⟨c6, c8⟩ := qt b9
    clear b9
    obtain rfl := Option.some.inj H
    have h2 := nn a0
    have f1 := y5 a1
    go_wp2
    go_ret
    exact ⟨er, pB HB.out⟩
   rw [if_neg b9] at H
   obtain ⟨c6, c8⟩ := qf b9
   by_cases c9 : a3 = 1
   ·
    rw [if_pos c9] at H
    obtain ⟨d0, d1⟩ := qt c9
    clear c9
    obtain rfl := Option.some.inj H
    have h3 := nn a0
    have f2 := y5 a1
    have f3 := y4 a2
    go_wp2
    go_ret
    exact ⟨er, pB HB.out⟩
   rw [if_neg c9] at H
   obtain ⟨d0, d1⟩ := qf c9
   by_cases d2 : a3 = 2
   ·
    rw [if_pos d2] at H
    obtain ⟨d3, d4⟩ := qt d2
    clear d2
    obtain rfl := Option.some.inj H
    have h4 := nn a0
    have f4 := y5 a1
    go_wp2
    go_ret
    exact ⟨er, pB HB.out⟩
   rw [if_neg d2] at H
   obtain ⟨d3, d4⟩ := qf d2
   by_cases d5 : a3 = 4
   ·
    rw [if_pos d5] at H
    obtain ⟨d6, d7⟩ := qt d5
    clear d5
    by_cases d8 : a4 = a9
    ·
     rw [if_pos d8] at H
     obtain ⟨d9, e0⟩ := qt d8
     clear d8
     obtain rfl := Option.some.inj H
     have h5 := nn a0
     have f5 := y5 a1
     have f6 := y4 a2
     go_wp2
     go_ret
     exact ⟨er, pB HB.out⟩
    rw [if_neg d8] at H
    obtain ⟨d9, e0⟩ := qf d8
    obtain rfl := Option.some.inj H
    have h6 := nn a0
    have f7 := y5 a1
    have f8 := y4 a2
    go_wp2
    go_ret
    exact ⟨er, pB HB.out⟩
   rw [if_neg d5] at H
   obtain ⟨d6, d7⟩ := qf d5
   by_cases e1 : a3 = 5
   ·
    rw [if_pos e1] at H
    obtain ⟨e2, e3⟩ := qt e1
    clear e1
    obtain rfl := Option.some.inj H
    have h7 := nn a0
    have f9 := y5 a1
    go_wp2
    go_ret
    exact ⟨er, pB HB.out⟩
   rw [if_neg e1] at H
   obtain ⟨e2, e3⟩ := qf e1
   by_cases b8 : a4 ≥ 1
   ·
    rw [if_pos b8] at H
    have e4 := decide_eq_true b8
    clear b8
    obtain rfl := Option.some.inj H
    have h8 := nn a0
    have g0 := y5 a1
    go_wp2
    go_ret
    exact ⟨er, pB HB.out⟩
   rw [if_neg b8] at H
   have e4 := decide_eq_false b8
   clear b8
   obtain rfl := Option.some.inj H
   have h9 := nn a0
   have g1 := y5 a1
   go_wp2
   go_ret
   exact ⟨er, pB HB.out⟩
end Go.Proofs.Ytabmkighhmchmaa.X
namespace Go.Proofs.Ytabmkighhmchmaa.X
open Go.RowKit Go.YW.PrintWords Go.YW.PrintLast Go.YW.PrintMore Go.YW.Sq
attribute [local go_sem] q0y q0w q1g q1f q0t q0s q0x q0v
set_option linter.unusedVariables false
set_option linter.unusedSimpArgs false
def Fq.j0 : Nat → Int → Int → Bool → List Int → Int → Int → Int → Int → Int → Int → Int → ByteArray → Option (Int × Int × Int × Int × ByteArray × Int)
 | 0, _, _, _, _, _, _, _, _, _, _, _, _ => none
 | k + 1, x2, x3, b1, a5, a6, a7, a0, a1, a2, a3, a8, a4 => if b1 = true then (some (0, 0, 0, 0, (⟨#[]⟩ : ByteArray), 1)) else (if a1 = 1 then ((Fo.f k x2 ([] : List Int)).bind fun a9 => (if a3 > a9 then (some (0, 0, 0, 0, (⟨#[]⟩ : ByteArray), 192)) else ((Fo.f k x2 (([a0] : List Int))).bind fun b0 => (some (2, wrap64 (a2 + 1), b0, x3, a4, 0))))) else (some (0, 0, 0, 0, (⟨#[]⟩ : ByteArray), 192)))
def Fq.f (k : Nat) (b0 : List Int) (a0 : Int) (a1 : Int) (a4 : Int) (a5 : Int) (a6 : Int) (a7 : Int) (a8 : Int) (a9 : ByteArray) (a2 : Int) (a3 : Int) : Option (Int × Int × Int × Int × ByteArray × Int) := if a3 < 1 then (Fq.j0 k a2 a3 true b0 a0 a1 a4 a5 a6 a7 a8 a9) else (Fq.j0 k a2 a3 (decide (a3 > 1099511627776)) b0 a0 a1 a4 a5 a6 a7 a8 a9)
def Fq.T3 : Bool × List (List Nat × List Nat) := (true, [([], []), ([0], [0]), ([1], [1]), ([2], [2]), ([3], [3]), ([4, 3], [3, 4]), ([3], [3]), ([6, 3, 3], [3, 6]), ([5, 7, 3], [3, 5, 7]), ([3, 8], [3, 8]), ([9, 7], [9])])
def Fq.B3 : List Nat := [0, 1, 3, 7, 15, 31, 15, 79, 255, 511, 1023]
theorem Fq.tab3 : rtab .any (opsOf Try.f63 3) = Fq.T3 := by kernel_rfl
theorem Fq.bits3 : q4j Fq.T3.2 Fq.B3 = true := by kernel_rfl
set_option maxHeartbeats 8000000 in
set_option maxRecDepth 100000 in
theorem Fq.calls (k : Nat) (d4 : Option Addr) (d5 : Nat) (b8 : List Int) (d0 : Int) (d1 : Int) (b0 : Int) (b3 : Int) (b1 : Int) (b4 : Int) (b6 : Int) (b2 : ByteArray) (a2 : Int) (a3 : Int) (r1 : Int) (r2 : Int) (r3 : Int) (r4 : Int) (r5 : ByteArray) (r6 : Int) (w : World) (d9 : Kd.C (Kd.int .i64) w d4 b8.length b8) (d8 : b8.length ≤ d5) (h : Fq.f k b8 d0 d1 b0 b3 b1 b4 b6 b2 a2 a3 = some (r1, r2, r3, r4, r5, r6)) :
  Calls Try.prog 63 #[.agg #[.slice d4 b8.length d5, .int .i64 d0, .int .i64 d1, .int .i64 b0], .agg #[.int .i64 b3, .int .i64 b1, .int .i64 b4, .int .i64 b6, .string b2], .int .i64 a2, .int .i64 a3] w fun e w' => e = .returned (.tuple #[.agg #[.int .i64 r1, .int .i64 r2, .int .i64 r3, .int .i64 r4, .string r5], .int .i64 r6]) ∧ Below w.heap.size w w' := by
 have i2 := Try.underlying49
 have i3 := Try.underlying51
 have g9 := am d9
 have g8 := am d8
 clear d9 d8
 have HB := am (Below.refl w.heap.size w)
 unfold Fq.f at h
 have H := h
 clear h
 have g1 := am H
 clear H
 go_enter Try.func63, Try.ntmps63
 go_upto_region 1 with (first | ((with_reducible refine gD 4 ?_); refine bz 4 #[.slice d4 b8.length d5, .int .i64 d0, .int .i64 d1, .int .i64 b0] 49 HB ?_; clear HB; intro e9 hg w6 hb a1 g5 HB; clear hb hg) | ((with_reducible refine gD 5 ?_); refine bz 5 #[.int .i64 b3, .int .i64 b1, .int .i64 b4, .int .i64 b6, .string b2] 51 HB ?_; clear HB; intro a5 hg w7 hb a0 g6 HB; have c6 := nL hg a1; replace a1 := kB a1 hb; clear hb hg) | ((with_reducible refine gD 8 ?_); refine bz 8 #[.int .i64 0, .int .i64 0, .int .i64 0, .int .i64 0, .string (⟨#[]⟩ : ByteArray)] 51 HB ?_; clear HB; intro b7 hg w8 hb a4 g7 HB; have c7 := nL hg a1; have a8 := nG hg a1; replace a1 := kB a1 hb; have c8 := nL hg a0; have a9 := nG hg a0; replace a0 := kB a0 hb; clear hb hg))
 (try simp only [Act.put, List.setIfInBounds_toArray, List.set_cons_zero, List.set_cons_succ])
 go_cut [10] (fun i4 wc => ∃ (kq : Nat) (b9 : Bool), i4 = .bool b9 ∧ q0f (Fq.j0 kq a2 a3 b9 b8 d0 d1 b0 b3 b1 b4 b6 b2 = some (r1, r2, r3, r4, r5, r6)) ∧ q0f (kq ≤ k) ∧ q0f (wc.heap[e9]? = some (.cells #[(.slice d4 b8.length d5), .int .i64 d0, .int .i64 d1, .int .i64 b0] 49 (0, 0))) ∧ q0f (wc.heap[a5]? = some (.cells #[.int .i64 b3, .int .i64 b1, .int .i64 b4, .int .i64 b6, .string b2] 51 (0, 0))) ∧ q0f (wc.heap[b7]? = some (.cells #[.int .i64 0, .int .i64 0, .int .i64 0, .int .i64 0, .string (⟨#[]⟩ : ByteArray)] 51 (0, 0))) ∧ q0f (Below w.heap.size w wc))
 case first =>
  have H := g1.out
  clear g1
  by_cases c9 : a3 < 1
  ·
   rw [if_pos c9] at H
   have d2 := decide_eq_true c9
   clear c9
   (first | rw [d2] | (simp only [q2r, q2u]; rw [d2]) | skip)
   have H' := am H
   clear H
   go_wp2
   go_meet
   case rel => exact ⟨_, (true), el, H', ol, ⟨pk a1.out⟩, ⟨pk a0.out⟩, ⟨pk a4.out⟩, ⟨pB HB.out⟩⟩
  rw [if_neg c9] at H
  have d2 := decide_eq_false c9
  clear c9
  (first | rw [d2] | (simp only [q2r, q2u]; rw [d2]) | skip)
  have H' := am H
  clear H
  go_wp2
  go_meet
  case rel => exact ⟨_, (decide (a3 > 1099511627776)), el, H', ol, ⟨pk a1.out⟩, ⟨pk a0.out⟩, ⟨pk a4.out⟩, ⟨pB HB.out⟩⟩
 case rest =>
  clear g1
  obtain ⟨kq, b9, rfl, HA, i6, a1, a0, a4, HB⟩ := hcut
  cases kq with
  | zero => exact absurd HA.out (by simp [Fq.j0])
  | succ f8 =>
   have H := HA.out
   clear HA
   simp only [Fq.j0] at H
   by_cases f1 : b9 = true
   ·
    subst f1
    rw [if_pos rfl] at H
    try dsimp only at H
    simp only [Option.some.injEq, Prod.mk.injEq] at H
    obtain ⟨rfl, rfl, rfl, rfl, rfl, rfl⟩ := H
    have h0 := nn a8
    have h2 := nn a9
    have f2 := y5 a4
    go_wp2
    refine bodyPost_ret (q1a rfl _ _ b7 51 #[.int .i64 0, .int .i64 0, .int .i64 0, .int .i64 0, .string (⟨#[]⟩ : ByteArray)] (0, 0) _ rfl (pP a4.out) Try.underlying51 rfl (by kernel_rfl)) rfl ?_
    exact ⟨er, pB HB.out⟩
   replace f1 := Bool.eq_false_iff.mpr f1
   subst f1
   rw [if_neg (show ¬ (false = true) by decide)] at H
   try dsimp only at H
   by_cases e5 : b3 = 1
   ·
    rw [if_pos e5] at H
    obtain ⟨e6, e7⟩ := qt e5
    clear e5
    replace H := Option.bind_eq_some_iff.mp H
    obtain ⟨e1, e3, H⟩ := H
    try dsimp only at H
    have g4 := am e3
    clear e3
    by_cases e2 : b4 > e1
    ·
     rw [if_pos e2] at H
     have e8 := decide_eq_true e2
     clear e2
     simp only [Option.some.injEq, Prod.mk.injEq] at H
     obtain ⟨rfl, rfl, rfl, rfl, rfl, rfl⟩ := H
     try go_wp2
     replace a1 := am (q0g a1.out)
     replace a0 := am (q0g a0.out)
     replace a4 := am (q0g a4.out)
     replace HB := am (q0a HB.out)
     refine q2i (n := 11) (S := fun w' => w'.cell? ⟨a5, 0, none⟩ = some (.int .i64 b3) ∧ w'.cell? ⟨a5, 1, none⟩ = some (.int .i64 b1) ∧ w'.cell? ⟨a5, 2, none⟩ = some (.int .i64 b4) ∧ w'.cell? ⟨a5, 3, none⟩ = some (.int .i64 b6) ∧ w'.cell? ⟨a5, 4, none⟩ = some (.string b2)) (ds := []) (ba 11 0) (by kernel_rfl) rfl rfl ⟨bc a0.out, bc a0.out, bc a0.out, bc a0.out, bc a0.out⟩ (fun a7 => ?_); refine q2l Fq.tab3 Fq.bits3 (fun a6 e0 => ?_)
     generalize wc.drew = i7 at a1 a0 a4 HB a7 ⊢
     refine pu 0 19 (ba 11 1) a6 ?_
     refine tk 1 20 (ba 11 3) a6 e0 a7 ?_
     refine pu 2 21 (ba 11 7) a6 ?_
     refine pu 3 22 (ba 11 15) a6 ?_
     refine pu 4 23 (ba 11 31) a6 ?_
     refine pu 6 25 (ba 11 95) a6 ?_
     refine tk 5 24 (ba 11 127) a6 e0 a7 ?_
     refine one_ (i := 7) (N := some 26) (ba 11 255) rfl rfl (one_of a6.out (by kernel_rfl)) (by decide) (fun K hK => ?_)
     refine q2c Try.func75 (by kernel_rfl) rfl #[.int .i64 a2, .slice none 0 0] (by rfl) rfl rfl (by (try simp only [List.map_toArray, List.map_cons, List.map_nil]); first | done | rfl | (simp only [List.length_drop, List.length_take]; rfl)) ?_
     refine (Fo.calls f8 a2 _ _ ([] : List Int) e1 _ ?side1 ?side2 g4.out).mono ?_
     (case side1 => exact Kd.C_nil _ _)
     (case side2 => exact Nat.le_refl _)
     rintro e i8 ⟨rfl, hb⟩
     refine ⟨_, rfl, ?_⟩
     replace a1 := kB a1 hb
     replace a0 := kB a0 hb
     replace a4 := kB a4 hb
     replace HB := bS HB hb
     (try clear hb)
     (try clear hb2)
     (try clear hk)
     (try clear hi)
     refine hK.out _ _ ⟨bc a0.out, bc a0.out, bc a0.out, bc a0.out, bc a0.out⟩ (fun a7 => ?_)
     clear hK K
     refine nh ?_
     refine pu 8 27 (ba 11 511) a6 ?_
     refine pu 9 28 (ba 11 1023) a6 ?_
     refine pu 10 18 (ba 11 2047) a6 ?_
     refine q2a (q3p a6.out (by kernel_rfl)) ?_
     have h3 := nn a8
     have h4 := nn a9
     have f3 := y5 a4
     try go_wp2
     refine bodyPost_ret (q1a rfl _ _ b7 51 #[.int .i64 0, .int .i64 0, .int .i64 0, .int .i64 0, .string (⟨#[]⟩ : ByteArray)] (0, 0) _ rfl (pP a4.out) Try.underlying51 rfl (by kernel_rfl)) rfl ?_
     exact ⟨er, pB HB.out⟩
    rw [if_neg e2] at H
    have e8 := decide_eq_false e2
    clear e2
    obtain ⟨y967, hy967⟩ : ∃ y_ : List Int, y_ = (([b0] : List Int)) := ⟨_, rfl⟩
    replace H : ((Fo.f f8 a2 y967).bind fun d6 => (some (2, wrap64 (b1 + 1), d6, a3, b2, 0))) = some (r1, r2, r3, r4, r5, r6) := by first | (rw [hy967]; with_reducible exact H) | (have g0 := (Option.bind_some _ _).symm.trans H; rw [hy967]; with_reducible exact g0) | (have g0 := (Option.bind_some _ _).symm.trans H; with_reducible exact g0) | with_reducible exact H | (rw [hy967]; exact H) | exact H
    have d7 := am hy967
    clear hy967
    replace H := Option.bind_eq_some_iff.mp H
    obtain ⟨d6, e4, H⟩ := H
    try dsimp only at H
    have i0 := am e4
    clear e4
    simp only [Option.some.injEq, Prod.mk.injEq] at H
    obtain ⟨rfl, rfl, rfl, rfl, rfl, rfl⟩ := H
    try go_wp2
    replace a1 := am (q0g a1.out)
    replace a0 := am (q0g a0.out)
    replace a4 := am (q0g a4.out)
    replace HB := am (q0a HB.out)
    refine q2i (n := 11) (S := fun w' => w'.cell? ⟨a5, 0, none⟩ = some (.int .i64 b3) ∧ w'.cell? ⟨a5, 1, none⟩ = some (.int .i64 b1) ∧ w'.cell? ⟨a5, 2, none⟩ = some (.int .i64 b4) ∧ w'.cell? ⟨a5, 3, none⟩ = some (.int .i64 b6) ∧ w'.cell? ⟨a5, 4, none⟩ = some (.string b2)) (ds := []) (ba 11 0) (by kernel_rfl) rfl rfl ⟨bc a0.out, bc a0.out, bc a0.out, bc a0.out, bc a0.out⟩ (fun a7 => ?_); refine q2l Fq.tab3 Fq.bits3 (fun a6 e0 => ?_)
    generalize wc.drew = i9 at a1 a0 a4 HB a7 ⊢
    refine pu 0 19 (ba 11 1) a6 ?_
    refine tk 1 20 (ba 11 3) a6 e0 a7 ?_
    refine pu 2 21 (ba 11 7) a6 ?_
    refine pu 3 22 (ba 11 15) a6 ?_
    refine pu 4 23 (ba 11 31) a6 ?_
    refine pu 6 25 (ba 11 95) a6 ?_
    refine tk 5 24 (ba 11 127) a6 e0 a7 ?_
    refine one_ (i := 7) (N := some 26) (ba 11 255) rfl rfl (one_of a6.out (by kernel_rfl)) (by decide) (fun K hK => ?_)
    refine q2c Try.func75 (by kernel_rfl) rfl #[.int .i64 a2, .slice none 0 0] (by rfl) rfl rfl (by (try simp only [List.map_toArray, List.map_cons, List.map_nil]); first | done | rfl | (simp only [List.length_drop, List.length_take]; rfl)) ?_
    refine (Fo.calls f8 a2 _ _ ([] : List Int) e1 _ ?side1 ?side2 g4.out).mono ?_
    (case side1 => exact Kd.C_nil _ _)
    (case side2 => exact Nat.le_refl _)
    rintro e j1 ⟨rfl, hb⟩
    refine ⟨_, rfl, ?_⟩
    replace a1 := kB a1 hb
    replace a0 := kB a0 hb
    replace a4 := kB a4 hb
    replace HB := bS HB hb
    (try clear hb)
    (try clear hb2)
    (try clear hk)
    (try clear hi)
    refine hK.out _ _ ⟨bc a0.out, bc a0.out, bc a0.out, bc a0.out, bc a0.out⟩ (fun a7 => ?_)
    clear hK K
    refine nh ?_
    refine pu 8 27 (ba 11 511) a6 ?_
    refine pu 9 28 (ba 11 1023) a6 ?_
    refine pu 10 18 (ba 11 2047) a6 ?_
    refine q2a (q3p a6.out (by kernel_rfl)) ?_
    have h5 := nn c6
    have h6 := nn c7
    have f4 := y4 a1
    try go_wp2_with (first | ((with_reducible refine gD 33 ?_); refine Kd.R_lit (Kd.int .i64) _ 3 ?hg (N := 33) ?hd (xs := ([b0] : List Int)) (inner := [.int .i64 b0]) (ok := fun _ => True) (okp := fun _ => True) ?hr ?hp (fun _ hk => hk) trivial (Below.refl _ _) (Nat.le_refl _) (by simp) ?_; (case hd => rfl); (case hg => rfl); (case hr => first | (go_simp; done) | (go_simp; rfl)); (case hp => exact (Reps.one (show Kd.M (Kd.int .i64) _ _ _ b0 [.int .i64 b0] from rfl) (Reps.none _ _))); intro i5 j2 d3 hb i1 f0; clear i1 f0; (first | rw [← d7.out] at d3 | (simp only [Int.reduceToNat] at d3; rw [← d7.out] at d3)); have b5 := am (Kd.R_lower d3 (q0p (pB HB.out))); replace a1 := kB a1 hb; replace a0 := kB a0 hb; replace a4 := kB a4 hb; replace HB := bS HB hb; clear hb d3; obtain ⟨f9, g2, g3⟩ := Kd.R_slice b5.out; subst g3) | ((with_reducible refine gC 75 ?_); refine gL 34 Try.func75 #[.int .i64 a2, .slice f9 y967.length g2] ?_; (with_reducible refine (Fo.calls f8 a2 _ _ y967 d6 _ ?side1 ?side2 i0.out).mono ?_); (case side1 => exact pC ((Kd.R_reads' b5.out).2.2)); (case side2 => exact (Kd.R_reads' b5.out).2.1); rintro e j3 ⟨rfl, hb⟩; refine ⟨_, rfl, ?_⟩; replace b5 := am (Kd.R_below (pR b5.out) hb); replace a1 := kB a1 hb; replace a0 := kB a0 hb; replace a4 := kB a4 hb; replace HB := bS HB hb; (try clear hb); have h7 := nn c8; have f5 := y5 a0; have f6 := y5 a4))
    refine bodyPost_ret (q1a rfl _ _ b7 51 #[.int .i64 2, .int .i64 (wrap64 (b1 + 1)), .int .i64 d6, .int .i64 a3, .string b2] (0, 0) _ rfl (pP a4.out) Try.underlying51 rfl (by kernel_rfl)) rfl ?_
    exact ⟨er, pB HB.out⟩
   rw [if_neg e5] at H
   obtain ⟨e6, e7⟩ := qf e5
   simp only [Option.some.injEq, Prod.mk.injEq] at H
   obtain ⟨rfl, rfl, rfl, rfl, rfl, rfl⟩ := H
   try go_wp2
   replace a1 := am (q0g a1.out)
   replace a0 := am (q0g a0.out)
   replace a4 := am (q0g a4.out)
   replace HB := am (q0a HB.out)
   refine q2i (n := 11) (S := fun w' => w'.cell? ⟨a5, 0, none⟩ = some (.int .i64 b3) ∧ w'.cell? ⟨a5, 1, none⟩ = some (.int .i64 b1) ∧ w'.cell? ⟨a5, 2, none⟩ = some (.int .i64 b4) ∧ w'.cell? ⟨a5, 3, none⟩ = some (.int .i64 b6) ∧ w'.cell? ⟨a5, 4, none⟩ = some (.string b2)) (ds := []) (ba 11 0) (by kernel_rfl) rfl rfl ⟨bc a0.out, bc a0.out, bc a0.out, bc a0.out, bc a0.out⟩ (fun a7 => ?_); refine q2l Fq.tab3 Fq.bits3 (fun a6 e0 => ?_)
   generalize wc.drew = j4 at a1 a0 a4 HB a7 ⊢
   refine pu 0 19 (ba 11 1) a6 ?_
   refine tk 1 20 (ba 11 3) a6 e0 a7 ?_
   refine pu 2 21 (ba 11 7) a6 ?_
   refine pu 3 22 (ba 11 15) a6 ?_
   refine pe 4 23 (ba 11 31) a6 ?_
   refine pe 5 24 (ba 11 63) a6 ?_
   refine pe 6 25 (ba 11 127) a6 ?_
   refine pe 7 26 (ba 11 255) a6 ?_
   refine pe 8 27 (ba 11 511) a6 ?_
   refine pu 9 28 (ba 11 1023) a6 ?_
   refine pu 10 18 (ba 11 2047) a6 ?_
   refine q2a (q3p a6.out (by kernel_rfl)) ?_
   have h8 := nn a8
   have h9 := nn a9
   have f7 := y5 a4
   try go_wp2
   refine bodyPost_ret (q1a rfl _ _ b7 51 #[.int .i64 0, .int .i64 0, .int .i64 0, .int .i64 0, .string (⟨#[]⟩ : ByteArray)] (0, 0) _ rfl (pP a4.out) Try.underlying51 rfl (by kernel_rfl)) rfl ?_
   exact ⟨er, pB HB.out⟩
end Go.Proofs.Ytabmkighhmchmaa.X
