/- Short words for the steps that the walks take again and again: worlds that have grown, what a block's cells are, a box's making. -/
import Derived.Test.YtmnkabdaapiikaaWGuard
import Derived.Test.YtmnkabdaapiikaaWLast
import Derived.Test.YtmnkabdaapiikaaWMore
import Derived.Test.YtmnkabdaapiikaaWN
import Derived.Test.YtmnkabdaapiikaaWShare
import Derived.Test.YtmnkabdaapiikaaWTab
namespace Go.Proofs.YtmnkabdaapiikaaW.Sq
open Go.RowKit Go.Proofs.YtmnkabdaapiikaaW.PrintWords Go.Proofs.YtmnkabdaapiikaaW.PrintLast Go.Proofs.YtmnkabdaapiikaaW.PrintMore
set_option linter.unusedVariables false

/-- W comes out of w by makings, draws and stores at blocks of which S holds. -/
def Gr (S : Nat → Prop) (w W : World) : Prop := ∀ P : World → Prop, (∀ X o, P X → P (X.alloc o)) → (∀ X n, P X → P (X.drewN n)) → (∀ X, P X → P X.drew) → (∀ X g j v, S g → P X → P (X.setCell ⟨g, j, none⟩ v)) → P w → P W
section
variable {S : Nat → Prop} {w W : World}
theorem Gr.r (S : Nat → Prop) (w : World) : Gr S w w := fun _ _ _ _ _ h => h
theorem Gr.a (h : Gr S w W) (o : Obj) : Gr S w (W.alloc o) := fun P a b c s k => a _ _ (h P a b c s k)
theorem Gr.n (h : Gr S w W) (n : Nat) : Gr S w (W.drewN n) := fun P a b c s k => b _ _ (h P a b c s k)
theorem Gr.d (h : Gr S w W) : Gr S w W.drew := fun P a b c s k => c _ (h P a b c s k)
theorem Gr.s {g j : Nat} {v : Value} (h : Gr S w W) (hg : S g) : Gr S w (W.setCell ⟨g, j, none⟩ v) := fun P a b c s k => s _ _ _ _ hg (h P a b c s k)
/-- What the block g holds, from cs at w to cs' at W. -/
def Pt (g t : Nat) (cs : Array Value) (w : World) (cs' : Array Value) (W : World) : Prop := w.heap[g]? = some (.cells cs t (0, 0)) → W.heap[g]? = some (.cells cs' t (0, 0))
variable {g t : Nat} {cs c1 c2 : Array Value}
theorem Pt.r : Pt g t cs w cs w := fun h => h
theorem Pt.a (h : Pt g t cs w c1 W) (o : Obj) : Pt g t cs w c1 (W.alloc o) := fun k => blk_alloc (h k) o
theorem Pt.n (h : Pt g t cs w c1 W) (n : Nat) : Pt g t cs w c1 (W.drewN n) := fun k => blk_drewN (h k) n
theorem Pt.d (h : Pt g t cs w c1 W) : Pt g t cs w c1 W.drew := fun k => blk_drew (h k)
theorem Pt.f {g' j : Nat} {v : Value} (h : Pt g t cs w c1 W) (hn : g ≠ g') : Pt g t cs w c1 (W.setCell ⟨g', j, none⟩ v) := fun k => blk_far (h k) hn v
theorem Pt.p {i : Nat} {u : Value} (h : Pt g t cs w c1 W) (e : c1.setIfInBounds i u = c2) : Pt g t cs w c2 (W.setCell ⟨g, i, none⟩ u) := fun k => blk_put (h k) i u e
end
section
variable {w w0 W W' : World} {g g' b base e t n : Nat} {o : Obj} {ok : Nat → Prop} {α : Type} {d : Kd α} {xs : List α} {v : Value} {A : Option Addr} {cs cs' : Array Value}
theorem am {p : Prop} (h : p) : Aside0 p := ⟨h⟩
theorem pk (h : w.heap[g]? = some o) (s : Gr (fun x => g ≠ x) w W := by with_reducible repeat (first | exact Gr.r _ _ | apply Gr.a | apply Gr.n | apply Gr.d | refine Gr.s ?_ (Aside0.out (by assumption)))) : W.heap[g]? = some o :=
  s (fun X => X.heap[g]? = some o) (fun _ _ h => blk_alloc h _) (fun _ _ h => blk_drewN h _) (fun _ h => blk_drew h) (fun X g' j v hg h => (Below.heap_setCell X ⟨g', j, none⟩ v g hg).trans h) h
theorem pP (h : w.heap[g]? = some (.cells cs t (0, 0))) (s : Pt g t cs w cs' W := by ((with_reducible repeat (first | exact Pt.r | apply Pt.a | apply Pt.n | apply Pt.d | apply Pt.p | (apply Pt.f; case hn => exact Aside0.out (by assumption)))); (all_goals first | rfl | skip))) : W.heap[g]? = some (.cells cs' t (0, 0)) := s h
theorem pV (h : Kd.V d e w base ok v xs) (s : Gr (fun x => ∀ k, ok k → k ≠ x) w W := by (repeat (first | (with_reducible first | exact Gr.r _ _ | apply Gr.a | apply Gr.n | apply Gr.d) | refine Gr.s ?_ (fun _ hk => by (try dsimp only at hk); first | exact hk | exact hk.2 | exact hk.2.1 | exact hk.1 | exact hk.2.2.1 | exact hk.1.2 | exact hk.2.2.2 | omega)))) : Kd.V d e W base ok v xs :=
  s (fun X => Kd.V d e X base ok v xs) (fun _ _ h => Kd.V_alloc h _) (fun _ _ h => Kd.V_drewN h _) (fun _ h => Kd.V_drew h) (fun X g' j v hg h => Kd.V_far (p := ⟨g', j, none⟩) h hg v) h
theorem pR (h : Kd.R d e w base ok v xs) (s : Gr (fun x => ∀ k, ok k → k ≠ x) w W := by (repeat (first | (with_reducible first | exact Gr.r _ _ | apply Gr.a | apply Gr.n | apply Gr.d) | refine Gr.s ?_ (fun _ hk => by (try dsimp only at hk); first | exact hk | exact hk.2 | exact hk.2.1 | exact hk.1 | exact hk.2.2.1 | exact hk.1.2 | exact hk.2.2.2 | omega)))) : Kd.R d e W base ok v xs :=
  s (fun X => Kd.R d e X base ok v xs) (fun _ _ h => Kd.R_alloc h _) (fun _ _ h => Kd.R_drewN h _) (fun _ h => Kd.R_drew h) (fun X g' j v hg h => Kd.R_far (p := ⟨g', j, none⟩) h hg v) h
theorem pS (h : Kd.S d e w base ok v xs) (s : Gr (fun x => ∀ k, ok k → k ≠ x) w W := by (repeat (first | (with_reducible first | exact Gr.r _ _ | apply Gr.a | apply Gr.n | apply Gr.d) | refine Gr.s ?_ (fun _ hk => by (try dsimp only at hk); first | exact hk | exact hk.2 | exact hk.2.1 | exact hk.1 | exact hk.2.2.1 | exact hk.1.2 | exact hk.2.2.2 | omega)))) : Kd.S d e W base ok v xs :=
  s (fun X => Kd.S d e X base ok v xs) (fun _ _ h => Kd.S_alloc h _) (fun _ _ h => Kd.S_drewN h _) (fun _ h => Kd.S_drew h) (fun X g' j v hg h => Kd.S_far (p := ⟨g', j, none⟩) h hg v) h
theorem pC (h : Kd.C d w A n xs) (s : Gr (fun _ => False) w W := by with_reducible repeat (first | exact Gr.r _ _ | apply Gr.a | apply Gr.n | apply Gr.d)) : Kd.C d W A n xs :=
  s (fun X => Kd.C d X A n xs) (fun _ _ h => Kd.C_alloc h _) (fun _ _ h => Kd.C_drewN h _) (fun _ h => Kd.C_drew h) (fun _ _ _ _ hg _ => hg.elim) h
theorem pB (h : Below w0.heap.size w0 w) (s : Gr (fun x => w0.heap.size ≤ x) w W := by with_reducible repeat (first | exact Gr.r _ _ | apply Gr.a | apply Gr.n | apply Gr.d | refine Gr.s ?_ (Aside0.out (by assumption)))) : Below w0.heap.size w0 W :=
  s (fun X => Below w0.heap.size w0 X) (fun _ _ h => below_alloc h _) (fun _ _ h => pw_below_drewN h _) (fun _ h => below_drew1 h) (fun _ _ _ _ hg h => below_set h hg) h
/-- A block that has just been made is none of those that there were. -/
theorem nl (hg : g' = W.heap.size) (h : W.heap[g]? = some o) : g ≠ g' := hg ▸ Nat.ne_of_lt (blk_lt h)
theorem ng (hg : g' = W.heap.size) (h : W.heap[g]? = some o) : g' ≠ g := (nl hg h).symm
theorem gs (hg : g' = W.heap.size) (h : Below w0.heap.size w0 W) : w0.heap.size ≤ g' := hg ▸ below_size h
end
section
variable {w : World} {g t : Nat} {a b c d e f : Value}
/-- A block's cells, one by one. -/
theorem c1 (h : w.heap[g]? = some (.cells #[a] t (0, 0))) : w.cell? ⟨g, 0, none⟩ = some a := (blk_cell h 0).trans rfl
theorem c2 (h : w.heap[g]? = some (.cells #[a, b] t (0, 0))) : w.cell? ⟨g, 0, none⟩ = some a ∧ w.cell? ⟨g, 1, none⟩ = some b := ⟨(blk_cell h 0).trans rfl, (blk_cell h 1).trans rfl⟩
theorem c3 (h : w.heap[g]? = some (.cells #[a, b, c] t (0, 0))) : w.cell? ⟨g, 0, none⟩ = some a ∧ w.cell? ⟨g, 1, none⟩ = some b ∧ w.cell? ⟨g, 2, none⟩ = some c := ⟨(blk_cell h 0).trans rfl, (blk_cell h 1).trans rfl, (blk_cell h 2).trans rfl⟩
theorem c4 (h : w.heap[g]? = some (.cells #[a, b, c, d] t (0, 0))) : w.cell? ⟨g, 0, none⟩ = some a ∧ w.cell? ⟨g, 1, none⟩ = some b ∧ w.cell? ⟨g, 2, none⟩ = some c ∧ w.cell? ⟨g, 3, none⟩ = some d := ⟨(blk_cell h 0).trans rfl, (blk_cell h 1).trans rfl, (blk_cell h 2).trans rfl, (blk_cell h 3).trans rfl⟩
theorem c5 (h : w.heap[g]? = some (.cells #[a, b, c, d, e] t (0, 0))) : w.cell? ⟨g, 0, none⟩ = some a ∧ w.cell? ⟨g, 1, none⟩ = some b ∧ w.cell? ⟨g, 2, none⟩ = some c ∧ w.cell? ⟨g, 3, none⟩ = some d ∧ w.cell? ⟨g, 4, none⟩ = some e := ⟨(blk_cell h 0).trans rfl, (blk_cell h 1).trans rfl, (blk_cell h 2).trans rfl, (blk_cell h 3).trans rfl, (blk_cell h 4).trans rfl⟩
theorem z1 {cs : Array Value} (h : w.heap[g]? = some (.cells cs t (0, 0))) : w.frozen? ⟨g, 0, none⟩ = false := blk_frozen h 0
theorem z2 {cs : Array Value} (h : w.heap[g]? = some (.cells cs t (0, 0))) : w.frozen? ⟨g, 0, none⟩ = false ∧ w.frozen? ⟨g, 1, none⟩ = false := ⟨blk_frozen h 0, blk_frozen h 1⟩
theorem z3 {cs : Array Value} (h : w.heap[g]? = some (.cells cs t (0, 0))) : w.frozen? ⟨g, 0, none⟩ = false ∧ w.frozen? ⟨g, 1, none⟩ = false ∧ w.frozen? ⟨g, 2, none⟩ = false := ⟨blk_frozen h 0, blk_frozen h 1, blk_frozen h 2⟩
theorem z4 {cs : Array Value} (h : w.heap[g]? = some (.cells cs t (0, 0))) : w.frozen? ⟨g, 0, none⟩ = false ∧ w.frozen? ⟨g, 1, none⟩ = false ∧ w.frozen? ⟨g, 2, none⟩ = false ∧ w.frozen? ⟨g, 3, none⟩ = false := ⟨blk_frozen h 0, blk_frozen h 1, blk_frozen h 2, blk_frozen h 3⟩
theorem z5 {cs : Array Value} (h : w.heap[g]? = some (.cells cs t (0, 0))) : w.frozen? ⟨g, 0, none⟩ = false ∧ w.frozen? ⟨g, 1, none⟩ = false ∧ w.frozen? ⟨g, 2, none⟩ = false ∧ w.frozen? ⟨g, 3, none⟩ = false ∧ w.frozen? ⟨g, 4, none⟩ = false := ⟨blk_frozen h 0, blk_frozen h 1, blk_frozen h 2, blk_frozen h 3, blk_frozen h 4⟩
end
section
variable {P : Program} {ops : Array Oper} {rest : List Oper} {o : Oper} {a : Act} {Q : Exit → Act → World → Prop} {W : World}
theorem bx (N : Tmp) (cs : Array Value) (t : TypeId)
    (h : ∀ g, g = W.heap.size → ∀ w1, w1.heap[g]? = some (.cells cs t (0, 0)) → Below W.heap.size W w1 → wpList P ops Q rest (a.put o.dst (.pointer (some ⟨g, 0, none⟩))) w1)
    (hgd : o.guard = none := by rfl) (hd : o.dst = some N := by rfl)
    (hrun : (execOp a.eval o).run P W = .ok (.value (.pointer (some ⟨W.heap.size, 0, none⟩))) (W.alloc (.cells cs t (0, 0))) := by first | (go_simp; done) | (go_simp; rfl)) : wpList P ops Q (o :: rest) a W :=
  box_event hgd hd hrun h
end
section
variable {P : Program} {md : Region.Mode} {ops : Array Oper} {Q : Exit → Act → World → Prop} {S : World → Prop} {ds : List Nat} {fuel : Nat} {l : Array Bool} {a : Act} {w : World} {T : Bool × List (List Nat × List Nat)} {B : List Nat}
/-- Which of n operations have come up, as a number's bits. -/
def ba (n m : Nat) : Array Bool := ((List.range n).map fun j => m.testBit j).toArray
/-- One step that leaves the world as it is. -/
theorem pu {oi : Oper} {v : Value} {a' : Act} (i : Nat) (N : Tmp) (l' : Array Bool) (hT : Aside0 (rtab md ops = T)) (h : wpAnyLast P md ops Q S ds fuel l' a' w)
    (hi : ops[i]? = some oi := by rfl) (hN : oi.dst = some N := by rfl) (hc : anyT T l.toList l'.toList i = true := by kernel_rfl) (hQ : ∀ c a w, Q (.panic c) (a.put oi.dst v) w → Q (.panic c) a w := by exact fun _ _ _ h => h)
    (hy : Yields P ops oi v a := by (refine Or.inl ⟨by rfl, ?_⟩; intro w'; go_simp; with_reducible rfl))
    (ha : a.put (some N) v = a' := by (simp only [Act.put, List.setIfInBounds_toArray, List.set_cons_zero, List.set_cons_succ, i64_w, i32_w]; rfl)) : wpAnyLast P md ops Q S ds (fuel + 1) l a w :=
  pure_ l' hi hN (any_of hT.out hc) hQ hy ha h
/-- One step that reads what is held. -/
theorem tk {oi : Oper} {v : Value} {a' : Act} (i : Nat) (N : Tmp) (l' : Array Bool) (hT : Aside0 (rtab md ops = T)) (hW : Aside0 (waitsOk T.2 B = true)) (hS : S w) (h : wpAnyLast P md ops Q S ds fuel l' a' w)
    (hi : ops[i]? = some oi := by rfl) (hN : oi.dst = some N := by rfl) (hc : takeW T B ds l.toList l'.toList i = true := by kernel_rfl) (hQ : ∀ c a w, Q (.panic c) (a.put oi.dst v) w → Q (.panic c) a w := by exact fun _ _ _ h => h)
    (hy : YieldsIf P ops S oi v a := by (refine Or.inl ⟨by rfl, ?_⟩; intro w' hs; (repeat (obtain ⟨_, hs⟩ := hs)); go_simp; with_reducible rfl))
    (ha : a.put (some N) v = a' := by (simp only [Act.put, List.setIfInBounds_toArray, List.set_cons_zero, List.set_cons_succ, i64_w, i32_w]; rfl)) : wpAnyLast P md ops Q S ds (fuel + 1) l a w :=
  take_ l' hi hN (take_ofW hT.out hW.out hc) hQ hy hS ha h
end
/-- An address within a block, told apart from another block. -/
theorem nb {ad x : Addr} {g : Nat} (h : ad.block ≠ g) (e : x.block = ad.block := by first | rfl | exact add_block _ _) : x.block ≠ g := fun k => h (e.symm.trans k)
theorem bc {w : World} {g t i : Nat} {cs : Array Value} {v : Value} (h : w.heap[g]? = some (.cells cs t (0, 0))) (e : cs[i]? = some v := by rfl) : w.cell? ⟨g, i, none⟩ = some v := (blk_cell h i).trans e
end Go.Proofs.YtmnkabdaapiikaaW.Sq
