/- A set of numbers that a call makes (a map of int to bool): what the machine's making, storing and looking up come to. -/
import Derived.Test.YtbgmhcefjggpgaaXx0
import Derived.Maps.OwnSet
namespace Go.Proofs.Ytbgmhcefjggpgaa
open Go.RowKit Go.Maps Go.Proofs.YtbgmhcefjggpgaaW.PrintWords
set_option linter.unusedVariables false

theorem law3 : Keyed Try.prog 3 := int_keyed Try.underlying3
theorem zero4 (w : World) : (zeroValue 4).run Try.prog w = .ok (.bool false) w := by kernel_rfl
/-- The numbers as keys. -/
def keysI (L : List Int) : List Lit := L.map fun x => Lit.int .i64 x
/-- Block b is the set of these numbers. -/
def isSet (w : World) (b n : Nat) (L : List Int) : Prop := w.ownsMap Try.prog 3 (plainElem (H := Unit) Try.prog 4) b n (setOf (.lit (.bool true)) (keysI L))
theorem isSet_made (w : World) : isSet (w.alloc (.map #[] 0)) w.heap.size 0 [] := World.ownsMap_made w _ _ _
theorem isSet_lt {w : World} {b n : Nat} {L : List Int} (h : isSet w b n L) : b < w.heap.size := World.ownsMap.lt h
theorem isSet_below {w w1 : World} {b n : Nat} {L : List Int} (h : isSet w b n L) (hb : Below w.heap.size w w1) : isSet w1 b n L := by
  obtain ⟨es, clock, hh, F, hs, hD⟩ := h
  have hlt : b < w.heap.size := by
    rcases Nat.lt_or_ge b w.heap.size with h | h
    · exact h
    · rw [Array.getElem?_eq_none h] at hh; cases hh
  exact ⟨es, clock, (hb.block b hlt).trans hh, F, hs, hD⟩
theorem isSet_drewN {w : World} {b n : Nat} {L : List Int} (h : isSet w b n L) (m : Nat) : isSet (w.drewN m) b n L := isSet_below h (Go.Proofs.YtbgmhcefjggpgaaW.PrintWords.pw_below_drewN (Below.refl _ _) m)
theorem isSet_drew {w : World} {b n : Nat} {L : List Int} (h : isSet w b n L) : isSet w.drew b n L := isSet_below h (below_drew (Below.refl _ _))
theorem isMap_setOf (L : List Lit) : IsMap (setOf (H := Unit) (.lit (.bool true)) L) := by
  unfold setOf
  generalize (DataW.map [] : DataW Unit) = m, (isMap_empty : IsMap (DataW.map [] : DataW Unit)) = h
  induction L generalizing m with
  | nil => exact h
  | cons x r ih => exact ih _ (h.put x _)
theorem at_fold (y : Int) : ∀ (L : List Int) (m : DataW Unit), IsMap m → ((keysI L).foldl (fun m x => m.put x (.lit (.bool true))) m).atKey (.int .i64 y) (.lit (.bool false)) = if L.contains y = true then .lit (.bool true) else m.atKey (.int .i64 y) (.lit (.bool false))
  | [], m, _ => by simp [keysI]
  | x :: r, m, hm => by
    rw [show keysI (x :: r) = Lit.int .i64 x :: keysI r from rfl, List.foldl_cons, at_fold y r _ (hm.put _ _)]
    by_cases e : y = x
    · subst e
      rw [atKey_put_same hm (show WideAt.IsKeyLit (.int .i64 y) from trivial)]
      simp
    · rw [atKey_put_other (fun h => e (by injection h))]
      simp [e]
theorem at_setOf (y : Int) (L : List Int) : (setOf (H := Unit) (.lit (.bool true)) (keysI L)).atKey (.int .i64 y) (.lit (.bool false)) = .lit (.bool (L.contains y)) := by
  unfold setOf
  rw [at_fold y L _ isMap_empty]
  cases L.contains y <;> rfl
theorem bool_inv {v : Value} {b : Bool} {ps : List MemPlace} (h : plainElem (H := Unit) Try.prog 4 v = some (.lit (.bool b), ps)) : v = .bool b := by
  unfold plainElem at h
  rw [Try.underlying4] at h
  cases v <;> simp at h
  exact congrArg Value.bool h.1
section
variable {ops : Array Oper} {rest : List Oper} {o : Oper} {a : Act} {Q : Exit → Act → World → Prop}
/-- m[k] = true. -/
theorem set_put (w : World) (hg : o.guard = none) (m x v : Operand) (hop : o.op = Op.mapUpdate 41 m x v) (b n : Nat) (L : List Int) (hm : a.eval m = .map (some b)) (h : isSet w b n L) (hn : n < 1000000) (y : Int) (hx : a.eval x = .int .i64 y) (hv : a.eval v = .bool true) (h0 : 0 ≤ y) (h1 : y < 1000000)
    (hK : ∀ w', isSet w' b (n + 1) (L ++ [y]) → w.grownBy w' (some b) → wpList Try.prog ops Q rest (a.put o.dst undef) w') : wpList Try.prog ops Q (o :: rest) a w := by
  refine wpList_mapUpdate_own w hg m x v 41 hop 3 4 law3 Try.underlying41 _ b n _ hm h (by unfold maxLen; omega) _ _ (.int .i64 y) hx hv (keyOf_int_mk Try.underlying3 (WalkArith.wf_i64 (by omega))) _ [] (plainElem_bool Try.underlying4 true) ?_
  intro w' h1 h2
  refine hK w' ?_ h2
  unfold isSet
  rw [show keysI (L ++ [y]) = keysI L ++ [Lit.int .i64 y] by simp [keysI], setOf_snoc]
  exact h1
/-- m[k]. -/
theorem set_get (w : World) (hg : o.guard = none) (m x : Operand) (hop : o.op = Op.lookup 41 m x false) (b n : Nat) (L : List Int) (hm : a.eval m = .map (some b)) (h : isSet w b n L) (y : Int) (hx : a.eval x = .int .i64 y) (h0 : 0 ≤ y) (h1 : y < 1000000)
    (hK : wpList Try.prog ops Q rest (a.put o.dst (.bool (L.contains y))) w) : wpList Try.prog ops Q (o :: rest) a w := by
  refine wpList_plain hg fun K' hK' => ?_
  obtain ⟨v, ps, hrun, hv⟩ := World.ownsMap.lookup h law3 Try.underlying41 (zero4 w) (plainElem_bool Try.underlying4 false) (keyOf_int_mk Try.underlying3 (a := y) (q := .i64) (WalkArith.wf_i64 (by omega)))
  rw [at_setOf] at hv
  have e := bool_inv hv
  subst e
  unfold Oper.wp
  simp [execOp, hop, hm, hx, hrun, Result.andThen]
  exact hK' _ _ (by simpa using hK)
end
section
variable {w w1 : World} {b n g base e : Nat} {L : List Int} {ok : Nat → Prop} {v : Value} {α : Type} {d : Kd α} {xs : List α} {cs : Array Value} {ty : Nat}
theorem isSet_ne (hm : isSet w b n L) (h : w.heap[g]? = some (.cells cs ty (0, 0))) : some g ≠ some b := by
  rintro he
  obtain ⟨es, clock, hh, _⟩ := hm
  injection he with he
  subst he
  rw [h] at hh
  cases hh
theorem keepM_blk (hg : w.grownBy w1 (some b)) (hm : isSet w b n L) (h : w.heap[g]? = some (.cells cs ty (0, 0))) : w1.heap[g]? = some (.cells cs ty (0, 0)) := by
  have hlt : g < w.heap.size := by
    rcases Nat.lt_or_ge g w.heap.size with h' | h'
    · exact h'
    · rw [Array.getElem?_eq_none h'] at h; cases h
  exact (hg.block g hlt (isSet_ne hm h)).trans h
theorem keepM_R (hg : w.grownBy w1 (some b)) (hm : isSet w b n L) (h : Kd.R d e w base ok v xs) : Kd.R d e w1 base ok v xs :=
  Kd.R_mono (Kd.R_step (Kd.R_bound h) (fun k hk hlt => by
    obtain ⟨_, _, _, q, _, cells, hc⟩ := hk
    exact hg.block k hlt (isSet_ne hm hc))) (fun _ hk => hk.1)
end
theorem rd_bound {l : List Int} (h : ∀ x ∈ l, 0 ≤ x ∧ x < 1000000) {i : Int} (h0 : 0 ≤ i) (h1 : i < (l.length : Int)) : 0 ≤ rd l i ∧ rd l i < 1000000 := by
  have hi : i.toNat < l.length := by omega
  have e : rd l i = l[i.toNat] := by simp [rd, List.getD_eq_getElem?_getD, List.getElem?_eq_getElem hi]
  rw [e]
  exact h _ (List.getElem_mem hi)
theorem take_rd {l : List Int} {i : Int} (h0 : 0 ≤ i) (h1 : i < (l.length : Int)) : l.take i.toNat ++ [rd l i] = l.take (i.toNat + 1) := by
  have hi : i.toNat < l.length := by omega
  have e : rd l i = l[i.toNat] := by simp [rd, List.getD_eq_getElem?_getD, List.getElem?_eq_getElem hi]
  rw [e, List.take_succ_eq_append_getElem hi]
end Go.Proofs.Ytbgmhcefjggpgaa
