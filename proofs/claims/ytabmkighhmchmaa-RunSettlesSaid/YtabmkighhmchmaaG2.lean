/- Words and walks for the law RunSettles, joined and made small by a program of mine. -/
import Derived.Test.YtabmkighhmchmaaG1
import Derived.Laws.StructEq
import Derived.Test.YtabmkighhmchmaaProg
import Derived.Below
import Derived.Deep.Draws
import Derived.Deep.AppendLies
import Derived.Maps.AppendAt
import Derived.OwnWalk
import Derived.Laws.BytesArg
import Derived.Laws.MakeOwn
import Derived.Laws.OwnMore
import Derived.Deep.OwnRows
import Derived.Tactics
import Derived.Lib.ConvBytes
import Derived.Laws.Slices
import Derived.WalkKit
import Derived.KernelRfl
import Derived.RowKit3
import Derived.Deep.LoopGhost
import Derived.Deep.QuietTactic
import Derived.BigQuiet
import Derived.WideLaws
import Derived.Deep.DeepCutAuto
import Derived.Deep.CutBlock
import Derived.Deep.RegionHeld3
import Derived.Laws.Rows
import Derived.Lib.AppendStr
import Derived.ArgAppend
import Derived.Laws.IdiomCopy
import Derived.OrdersHeld
import Derived.Laws.BitsLemmas
import Derived.RowKit
import Derived.RangeFuncNested
import Derived.RangeFuncBound
import Derived.RangeFuncCalls
import Derived.RangeFuncLeaves
import Derived.RangeFuncBox
import Derived.Shelf.Abstract
import Derived.OwnWalkIn
import Derived.TacticsInMore
import Derived.LoopNIn
import Derived.LoopIn
import Derived.LoopTactic
import Derived.Outline
import Derived.WalkSpells
namespace Go.YW.PrintWords
open Go.RowKit
namespace Kd
def chunks (sz : Nat) (n : Nat) (inner : List Value) : List (List Value) := (List.range n).map fun j => (inner.drop (j * sz)).take sz
theorem q1o (sz n : Nat) (inner : List Value) : (chunks sz n inner).length = n := by simp [chunks]
theorem chunks_at {sz n : Nat} {inner : List Value} {j : Nat} (hj : j < n) : (chunks sz n inner)[j]? = some ((inner.drop (j * sz)).take sz) := by simp [chunks, hj]
theorem q4t {sz n : Nat} {inner : List Value} {j : Nat} {c : List Value} (h : (chunks sz n inner)[j]? = some c) : c = (inner.drop (j * sz)).take sz := by
 have hj : j < n := by have := (List.getElem?_eq_some_iff.1 h).1; rwa [q1o] at this
 rw [chunks_at hj] at h
 injection h with h
 exact h.symm
theorem reps_raw {α : Type} {Rr : α → List Value → Prop} {sz : Nat} {xs : List α} {inner : List Value} (h : Reps Rr sz xs inner) (hR : ∀ x c, Rr x c → c.length = sz ∧ ∀ u ∈ c, u.oneCell' = true) : Reps (fun x cs => cs = x ∧ cs.length = sz ∧ ∀ u ∈ cs, u.oneCell' = true) sz (chunks sz xs.length inner) inner := by
 refine ⟨by rw [q1o]; exact h.1, fun j p hj => ?_⟩
 have hjl : j < xs.length := by have := (List.getElem?_eq_some_iff.1 hj).1; rwa [q1o] at this
 have hp := q4t hj
 exact ⟨hp.symm, hR _ _ (h.2 j _ (List.getElem?_eq_getElem hjl))⟩
section
variable {α : Type} {d : Kd α} {e base n cc g : Nat} {ok ok' okp S : Nat → Prop} {w w1 W W1 : World} {A : Option Addr} {u v v1 : Value} {xs : List α} {x : α} {c : List Value}
theorem F_get (h : F d W ok A n xs) (z : α) (i : Int) (h0 : 0 ≤ i) (h1 : i < n) :
  ∃ ad c, A = some ad ∧ c.length = d.sz ∧ FK d W ok (xs.getD i.toNat z) c ∧ (∀ j u, c[j]? = some u → W.cell? (ad.add (i.toNat * d.sz + j)) = some u) ∧ (0 < d.sz → ok ad.block) := by
 obtain ⟨ad, c, rfl, hcl, hK, hcc⟩ := C_get (F_now h) z i h0 h1
 have hin : 0 < d.sz → ok ad.block := by
  intro hs
  by_cases hk : ok ad.block
  ·
   exact hk
  ·
   obtain ⟨W', h2, h3⟩ := emptied W ad.block
   obtain ⟨ad', c', he, hcl', _, hcc'⟩ := C_get (h W' (fun k hk' _ => h2 k (fun e => hk (e ▸ hk')))) z i h0 h1
   injection he with he
   subst he
   have h4 := hcc' 0 _ (List.getElem?_eq_getElem (by omega))
   rw [h3 _ (add_block _ _)] at h4
   cases h4
 refine ⟨ad, c, rfl, hcl, fun W' hW => ?_, hcc, hin⟩
 obtain ⟨ad', c', he, hcl', hK', hcc'⟩ := C_get (h W' hW) z i h0 h1
 injection he with he
 subst he
 have hc : c = c' := by
  apply List.ext_getElem?
  intro j
  by_cases hj : j < d.sz
  ·
   have hb : W'.heap[ad.block]? = W.heap[ad.block]? := by
    have h5 := hcc j _ (List.getElem?_eq_getElem (by omega))
    have h6 := World.block_lt_of_cell? W _ h5
    rw [add_block] at h6
    exact hW _ (hin (by omega)) h6
   have h5 := hcc j _ (List.getElem?_eq_getElem (by omega))
   have h6 := hcc' j _ (List.getElem?_eq_getElem (by omega))
   have h7 : W'.cell? (ad.add (i.toNat * d.sz + j)) = W.cell? (ad.add (i.toNat * d.sz + j)) := by simp [World.cell?, add_block, hb]
   rw [h7, h5] at h6
   rw [List.getElem?_eq_getElem (by omega), List.getElem?_eq_getElem (by omega)]
   exact h6
  ·
   rw [List.getElem?_eq_none (by omega), List.getElem?_eq_none (by omega)]
 rw [hc]
 exact hK'
theorem F_rows (h : F d W ok A n xs) : q2b (fun x c => FK d W ok x c) d.sz W A n xs := by
 obtain ⟨hl, hm, hn⟩ := F_now h
 refine ⟨hl, hm, fun hp => ?_⟩
 obtain ⟨ad, rfl, _⟩ := hn hp
 refine ⟨ad, rfl, fun j p hj => ?_⟩
 obtain ⟨hjl, hjp⟩ := List.getElem?_eq_some_iff.1 hj
 obtain ⟨ad', c, he, hcl, hK, hcc, _⟩ := F_get h p (j : Int) (by omega) (by omega)
 injection he with he
 subst he
 simp only [Int.toNat_natCast] at hK hcc
 rw [List.getD_eq_getElem?_getD, hj] at hK
 exact ⟨c, hcl, hK, hcc⟩
def N {α : Type} (d : Kd α) (e : Nat) (w : World) (base : Nat) (ok : Nat → Prop) (v : Value) (xs : List α) : Prop :=
 (∀ k, v.ownBlock = some k → ok k) ∧ ∃ rows : List (List Value), rows.length = xs.length ∧ (raw d.sz).R e w base (fun k => some k = v.ownBlock) v rows ∧ ∀ (j : Nat) (x : α) (c : List Value), xs[j]? = some x → rows[j]? = some c → FK d w (fun k => ok k ∧ some k ≠ v.ownBlock) x c
theorem raw_tight {sz : Nat} {rows : List (List Value)} (h : (raw sz).R e w base ok v rows) : (raw sz).R e w base (fun k => some k = v.ownBlock) v rows := R_tight rfl h
theorem raw_any {sz : Nat} {rows : List (List Value)} (h : (raw sz).R e w base ok v rows) : (raw sz).R e w base (fun _ => True) v rows := R_mono h (fun _ _ => trivial)
theorem R_N (h : d.R e w base ok v xs) : N d e w base ok v xs := by
 obtain ⟨h0, inner, ho, hr⟩ := h
 refine ⟨h0, chunks d.sz xs.length inner, q1o _ _ _, ⟨fun k hk => hk.symm, inner, by rw [q1o]; exact ho, reps_raw hr (fun x c hp => ⟨d.K_len (d.K_of_M hp), d.K_one (d.K_of_M hp)⟩)⟩, fun j x c hx hc => ?_⟩
 rw [q4t hc]
 exact FK_of_M (hr.2 j x hx)
theorem N_nil (d : Kd α) (e : Nat) (w : World) (base : Nat) (ok : Nat → Prop) : N d e w base ok (.slice none 0 0) [] := R_N (R_nil _ _ _ _ _)
theorem N_mono (h : N d e w base ok v xs) (hok : ∀ k, ok k → ok' k) : N d e w base ok' v xs := by
 obtain ⟨h0, rows, hl, hR, hf⟩ := h
 exact ⟨fun k hk => hok k (h0 k hk), rows, hl, hR, fun j x c hx hc => FK_mono (hf j x c hx hc) (fun k hk => ⟨hok k hk.1, hk.2⟩)⟩
theorem N_lt (h : N d e w base ok v xs) : ∀ k, v.ownBlock = some k → k < w.heap.size := by
 obtain ⟨_, rows, _, hR, _⟩ := h
 exact R_lt hR
theorem N_base (h : N d e w base ok v xs) : ∀ k, v.ownBlock = some k → base ≤ k := by
 obtain ⟨_, rows, _, hR, _⟩ := h
 exact R_base hR
theorem N_ne (h : N d e w base ok v xs) {t : Nat} {cells : Array Value} (hb : w.heap[g]? = some (.cells cells t (0, 0))) (ht : e ≠ t) : some g ≠ v.ownBlock := by
 obtain ⟨_, rows, _, hR, _⟩ := h
 exact R_ne hR hb ht
theorem N_bound (h : N d e w base ok v xs) : N d e w base (fun k => ok k ∧ k < w.heap.size) v xs := by
 have hlt := N_lt h
 obtain ⟨h0, rows, hl, hR, hf⟩ := h
 exact ⟨fun k hk => ⟨h0 k hk, hlt k hk⟩, rows, hl, hR, fun j x c hx hc => FK_mono (FK_bound (hf j x c hx hc)) (fun k hk => ⟨⟨hk.1.1, hk.2⟩, hk.1.2⟩)⟩
theorem N_step (h : N d e w base ok v xs) (hm : ∀ k, ok k → k < w.heap.size → w1.heap[k]? = w.heap[k]?) : N d e w1 base ok v xs := by
 obtain ⟨h0, rows, hl, hR, hf⟩ := h
 exact ⟨h0, rows, hl, R_step hR (fun k hk hlt => hm k (h0 k hk.symm) hlt), fun j x c hx hc => FK_step (hf j x c hx hc) (fun k hk hlt => hm k hk.1 hlt)⟩
theorem N_below (h : N d e w base ok v xs) (hb : Below w.heap.size w w1) : N d e w1 base ok v xs := N_step h (fun k _ hk => hb.block k hk)
theorem N_alloc (h : N d e w base ok v xs) (o : Obj) : N d e (w.alloc o) base ok v xs := N_below h (q0d (Below.refl _ _) o)
theorem N_drew (h : N d e w base ok v xs) : N d e w.drew base ok v xs := N_below h (q1l (Below.refl _ _))
theorem N_drewN (h : N d e w base ok v xs) (m : Nat) : N d e (w.drewN m) base ok v xs := N_below h (q0m (Below.refl _ _) m)
theorem N_far (h : N d e w base ok v xs) {p : Addr} (hok : ∀ k, ok k → k ≠ p.block) (u : Value) : N d e (w.setCell p u) base ok v xs := N_step h (fun k ho _ => Below.heap_setCell w p u k (hok k ho))
theorem N_slice (h : N d e w base ok v xs) : ∃ A c, v = .slice A xs.length c := by
 obtain ⟨_, rows, hl, hR, _⟩ := h
 obtain ⟨A, c, he⟩ := R_slice hR
 exact ⟨A, c, by rw [he, hl]⟩
theorem N_form (h : N d e w base ok v xs) (hp : 0 < xs.length) : ∃ g cap, v = .slice (some ⟨g, 0, none⟩) xs.length cap ∧ base ≤ g ∧ g < w.heap.size ∧ ∃ cells, w.heap[g]? = some (.cells cells e (0, 0)) := by
 obtain ⟨_, rows, hl, hR, _⟩ := h
 rw [← hl] at hp ⊢
 exact R_form hR hp
theorem N_reads' {n c : Nat} (h : N d e w base ok (.slice A n c) xs) : n = xs.length ∧ n ≤ c ∧ d.C w A xs.length xs := by
 obtain ⟨_, rows, hl, hR, hf⟩ := h
 obtain ⟨hn, hc, hC⟩ := R_reads' hR
 refine ⟨by omega, hc, ?_⟩
 rw [hl] at hC
 refine ⟨rfl, hC.2.1, fun hp => ?_⟩
 obtain ⟨ad, he, hcell⟩ := hC.2.2 hp
 refine ⟨ad, he, fun j p hj => ?_⟩
 have hjl : j < rows.length := by have := (List.getElem?_eq_some_iff.1 hj).1; omega
 obtain ⟨c', hcl, hK, hcc⟩ := hcell j _ (List.getElem?_eq_getElem hjl)
 have hk := FK_now (hf j p _ hj (List.getElem?_eq_getElem hjl))
 refine ⟨c', hcl, ?_, hcc⟩
 rw [show c' = rows[j] from hK.1]
 exact hk
theorem N_F {n : Nat} (h : N d e w base ok (.slice A n cc) xs) : F d w ok A n xs := fun W' hW => by
 have h2 := N_reads' (N_step h hW)
 rw [h2.1]
 exact h2.2.2
theorem N_elem {n cap : Nat} (h : N d e W base ok (.slice (some ⟨g, 0, none⟩) n cap) xs) (z : α) (i : Int) (h0 : 0 ≤ i) (h1 : i < n) :
  ∃ c, c.length = d.sz ∧ FK d W (fun k => ok k ∧ k ≠ g) (xs.getD i.toNat z) c ∧ (∀ j u, c[j]? = some u → W.cell? ⟨g, i.toNat * d.sz + j, none⟩ = some u) ∧ ∀ j, W.frozen? ⟨g, i.toNat * d.sz + j, none⟩ = false := by
 obtain ⟨_, rows, hl, hR, hf⟩ := h
 have hn := (R_reads' hR).1
 obtain ⟨c, hcl, hM, hcc, hfr⟩ := R_elem hR [] i h0 h1
 have hil : i.toNat < rows.length := by omega
 have hil' : i.toNat < xs.length := by omega
 have hc : c = rows[i.toNat] := by
  have h2 := hM.1
  rwa [List.getD_eq_getElem?_getD, List.getElem?_eq_getElem hil] at h2
 refine ⟨c, hcl, ?_, hcc, hfr⟩
 rw [List.getD_eq_getElem?_getD, List.getElem?_eq_getElem hil']
 exact FK_mono (hf _ _ _ (List.getElem?_eq_getElem hil') (by rw [hc]; exact List.getElem?_eq_getElem hil)) (fun k hk => ⟨hk.1, fun he => hk.2 (by rw [he]; simp [Value.ownBlock])⟩)
end
end Kd
namespace Kd
section
variable {α : Type} {d : Kd α} {W : World} {g n : Nat} {S ok : Nat → Prop} {A : Option Addr} {ad : Addr} {xs : List α}
theorem F_in (h : F d W ok A n xs) {ad : Addr} (hA : A = some ad) (hn : 0 < n) (hs : 0 < d.sz) : ok ad.block := by
 subst hA
 have hl := F_len h
 cases xs with
 | nil => simp at hl; omega
 | cons x r =>
  obtain ⟨ad', c, he, _, _, _, hin⟩ := F_get h x 0 (by omega) (by omega)
  injection he with he
  subst he
  exact hin hs
end
end Kd
section
variable {w w' u : World} {m B g : Nat} {o : Obj} {row : Option Nat} {S : Nat → Prop} {a : Addr} {v : Value}
end
namespace Kd
section
variable {α : Type} {d : Kd α} {e base n m : Nat} {ok : Nat → Prop} {w w' : World} {v : Value} {A : Option Addr} {xs : List α}
end
end Kd
section
variable {P : Program} {d : Nat} {xs ys : Array Value} {f : Field} {fs : List Field} {a b : Value} {r s : Bool} {w : World}
theorem eqf_last (hn : (f.name == "_") = false) (ha : (part f.type xs f.offset).run P w = .ok a w) (hb : (part f.type ys f.offset).run P w = .ok b w) (he : (Op.equalIn d f.type a b).run P w = .ok r w) : (Op.eqFields d xs ys [f]).run P w = .ok r w := by
 have hn' : f.name ≠ "_" := by simpa using hn
 simp only [Op.eqFields, if_pos hn', Sem.run_bind, ha, hb, he, Result.andThen_ok]
 cases r <;> simp
theorem eqf_cons (hn : (f.name == "_") = false) (ha : (part f.type xs f.offset).run P w = .ok a w) (hb : (part f.type ys f.offset).run P w = .ok b w) (he : (Op.equalIn d f.type a b).run P w = .ok r w) (hr : (Op.eqFields d xs ys fs).run P w = .ok s w) : (Op.eqFields d xs ys (f :: fs)).run P w = .ok (r && s) w := by
 have hn' : f.name ≠ "_" := by simpa using hn
 rw [Op.eqFields]
 simp only [if_pos hn', Sem.run_bind, ha, hb, he, Result.andThen_ok]
 cases r
 ·
  simp
 ·
  simpa using hr
theorem eqA_of {t : TypeId} {fs : Array Field} (hu : P.underlying t = some (.struct fs)) (hp : P.stoodInHeld t = false) (h : (Op.eqFields d xs ys fs.toList).run P w = .ok r w) : (Op.equalIn (d + 1) t (.agg xs) (.agg ys)).run P w = .ok r w := by
 have hf : P.fieldsOf t = fs := by simp [Program.fieldsOf, hu]
 rw [run_equalIn_struct (P := P) w d t xs ys (by rw [hf]; exact hu) hp, hf]
 exact h
end
end Go.YW.PrintWords
namespace Go.YW.PrintWords
theorem Reps.one {α : Type} {R : α → List Value → Prop} {ps : List α} {cs : List Value} {p : α} {v : Value} (hp : R p [v]) (h : Reps R 1 ps cs) : Reps R 1 (p :: ps) (v :: cs) := by
 refine ⟨by simp [h.1], fun j q hq => ?_⟩
 cases j with
 | zero =>
  simp only [List.getElem?_cons_zero, Option.some.injEq] at hq
  subst hq
  simpa using hp
 | succ j =>
  simp only [List.getElem?_cons_succ] at hq
  have h1 := h.2 j q hq
  simpa [Nat.mul_one] using h1
theorem Reps.front {α : Type} {R : α → List Value → Prop} {size : Nat} {ps : List α} {cs c all : List Value} {p : α} (hp : R p c) (hc : c.length = size) (h : Reps R size ps cs) (ha : c ++ cs = all) : Reps R size (p :: ps) all := by
 subst ha
 refine ⟨by rw [List.length_append, hc, h.1, List.length_cons, Nat.succ_mul, Nat.add_comm], fun j q hq => ?_⟩
 cases j with
 | zero =>
  simp only [List.getElem?_cons_zero, Option.some.injEq] at hq
  subst hq
  rw [Nat.zero_mul, List.drop_zero, List.take_append_of_le_length (by omega), List.take_of_length_le (by omega)]
  exact hp
 | succ j =>
  simp only [List.getElem?_cons_succ] at hq
  have h1 := h.2 j q hq
  rw [Nat.succ_mul, List.drop_append, List.drop_of_length_le (by rw [hc]; exact Nat.le_add_left _ _), List.nil_append, hc, Nat.add_sub_cancel]
  exact h1
theorem Reps.c2 {α : Type} {R : α → List Value → Prop} {ps : List α} {cs : List Value} {p : α} {va vb : Value} (hp : R p [va, vb]) (h : Reps R 2 ps cs) : Reps R 2 (p :: ps) (va :: vb :: cs) := Reps.front hp rfl h rfl
theorem Reps.c3 {α : Type} {R : α → List Value → Prop} {ps : List α} {cs : List Value} {p : α} {va vb vc : Value} (hp : R p [va, vb, vc]) (h : Reps R 3 ps cs) : Reps R 3 (p :: ps) (va :: vb :: vc :: cs) := Reps.front hp rfl h rfl
theorem Reps.c4 {α : Type} {R : α → List Value → Prop} {ps : List α} {cs : List Value} {p : α} {va vb vc vd : Value} (hp : R p [va, vb, vc, vd]) (h : Reps R 4 ps cs) : Reps R 4 (p :: ps) (va :: vb :: vc :: vd :: cs) := Reps.front hp rfl h rfl
theorem Reps.c5 {α : Type} {R : α → List Value → Prop} {ps : List α} {cs : List Value} {p : α} {va vb vc vd ve : Value} (hp : R p [va, vb, vc, vd, ve]) (h : Reps R 5 ps cs) : Reps R 5 (p :: ps) (va :: vb :: vc :: vd :: ve :: cs) := Reps.front hp rfl h rfl
theorem Reps.c6 {α : Type} {R : α → List Value → Prop} {ps : List α} {cs : List Value} {p : α} {va vb vc vd ve vf : Value} (hp : R p [va, vb, vc, vd, ve, vf]) (h : Reps R 6 ps cs) : Reps R 6 (p :: ps) (va :: vb :: vc :: vd :: ve :: vf :: cs) := Reps.front hp rfl h rfl
theorem Reps.c7 {α : Type} {R : α → List Value → Prop} {ps : List α} {cs : List Value} {p : α} {va vb vc vd ve vf vg : Value} (hp : R p [va, vb, vc, vd, ve, vf, vg]) (h : Reps R 7 ps cs) : Reps R 7 (p :: ps) (va :: vb :: vc :: vd :: ve :: vf :: vg :: cs) := Reps.front hp rfl h rfl
theorem Reps.c8 {α : Type} {R : α → List Value → Prop} {ps : List α} {cs : List Value} {p : α} {va vb vc vd ve vf vg vh : Value} (hp : R p [va, vb, vc, vd, ve, vf, vg, vh]) (h : Reps R 8 ps cs) : Reps R 8 (p :: ps) (va :: vb :: vc :: vd :: ve :: vf :: vg :: vh :: cs) := Reps.front hp rfl h rfl
theorem Reps.c9 {α : Type} {R : α → List Value → Prop} {ps : List α} {cs : List Value} {p : α} {va vb vc vd ve vf vg vh vi : Value} (hp : R p [va, vb, vc, vd, ve, vf, vg, vh, vi]) (h : Reps R 9 ps cs) : Reps R 9 (p :: ps) (va :: vb :: vc :: vd :: ve :: vf :: vg :: vh :: vi :: cs) := Reps.front hp rfl h rfl
theorem Reps.c10 {α : Type} {R : α → List Value → Prop} {ps : List α} {cs : List Value} {p : α} {va vb vc vd ve vf vg vh vi vj : Value} (hp : R p [va, vb, vc, vd, ve, vf, vg, vh, vi, vj]) (h : Reps R 10 ps cs) : Reps R 10 (p :: ps) (va :: vb :: vc :: vd :: ve :: vf :: vg :: vh :: vi :: vj :: cs) := Reps.front hp rfl h rfl
end Go.YW.PrintWords
namespace Go.YW.PrintLast
section
variable {P : Program} {ops : Array Oper} {Q : Exit → Act → World → Prop} {md : Region.Mode} {T : Bool × List (List Nat × List Nat)} {B : List Nat} {O : List Nat} {b : Nat → Bool} {i j n : Nat}
end
end Go.YW.PrintLast
namespace Go.YW.PrintWords
open Go.RowKit
end Go.YW.PrintWords
namespace Go.YW.PrintLast
section
variable {ops : Array Oper} {a : Act} {o og : Oper} {g : Nat} {t : Tmp} {u : Bool}
end
end Go.YW.PrintLast
namespace Go.YW.PrintWords
open Go.RowKit
section
variable {P : Program} {ops : Array Oper} {rest : List Oper} {o : Oper} {a : Act} {Q : Exit → Act → World → Prop} {W : World}
theorem q1e (hw : Region.wanted o (yielded ops a.tmps) = true) (h : wpList P ops Q ({ o with guard := none } :: rest) a W) : wpList P ops Q (o :: rest) a W := by
 have h1 : Region.wanted { o with guard := none } (yielded ops a.tmps) = true := rfl
 unfold wpList at h ⊢
 rw [if_pos h1] at h
 rw [if_pos hw]
 exact h
end
namespace Kd
section
variable {α : Type} {d : Kd α} {e base n cap g : Nat} {ok ok' okp : Nat → Prop} {w w1 W : World} {v v1 : Value} {xs ys : List α}
theorem N_appended {rows news : List (List Value)} (h0 : ∀ k, v.ownBlock = some k → ok k) (hl : rows.length = xs.length) (hf : ∀ (j : Nat) (x : α) (c : List Value), xs[j]? = some x → rows[j]? = some c → FK d W (fun k => ok k ∧ some k ≠ v.ownBlock) x c)
  (hl2 : news.length = ys.length) (hf2 : ∀ (j : Nat) (x : α) (c : List Value), ys[j]? = some x → news[j]? = some c → FK d W okp x c) (hokp : ∀ k, okp k → ok k ∧ some k ≠ v.ownBlock) (hfresh : ∀ k, W.heap.size ≤ k → ok k)
  (hR : (raw d.sz).R e w1 base (fun _ => True) v1 (rows ++ news)) (hg : W.grownBy w1 v.ownBlock) (hat : v1.ownBlock = v.ownBlock ∨ ∃ b, v1.ownBlock = some b ∧ W.heap.size ≤ b) : N d e w1 base ok v1 (xs ++ ys) := by
 have hne : ∀ k, some k ≠ v.ownBlock → k < W.heap.size → some k ≠ v1.ownBlock := by
  intro k hk hlt
  rcases hat with hat | ⟨b, hb, hle⟩
  ·
   rw [hat]; exact hk
  ·
   rw [hb]
   intro he
   injection he with he
   omega
 have step : ∀ {x : α} {c : List Value} {o : Nat → Prop}, FK d W o x c → (∀ k, o k → ok k ∧ some k ≠ v.ownBlock) → FK d w1 (fun k => ok k ∧ some k ≠ v1.ownBlock) x c := by
  intro x c o hq ho
  exact FK_mono (FK_step (FK_bound hq) (fun k hk hlt => hg.block k hlt (ho k hk.1).2)) (fun k hk => ⟨(ho k hk.1).1, hne k (ho k hk.1).2 hk.2⟩)
 refine ⟨fun k hk => ?_, rows ++ news, by rw [List.length_append, List.length_append, hl, hl2], raw_tight hR, fun j x c hx hc => ?_⟩
 ·
  rcases hat with hat | ⟨b, hb, hle⟩
  ·
   exact h0 k (hat ▸ hk)
  ·
   rw [hb] at hk
   injection hk with hk
   exact hfresh k (by omega)
 ·
  rcases Nat.lt_or_ge j xs.length with hlt | hge
  ·
   rw [List.getElem?_append_left hlt] at hx
   rw [List.getElem?_append_left (by omega)] at hc
   exact step (hf j x c hx hc) (fun _ hk => hk)
  ·
   rw [List.getElem?_append_right hge] at hx
   rw [List.getElem?_append_right (by omega), hl] at hc
   exact step (hf2 _ x c hx hc) hokp
theorem N_made {rows : List (List Value)} (hR : (raw d.sz).R e w1 base (fun k => k = W.heap.size) v1 rows) (hg : W.grownBy w1 none) (hat : ∃ b, v1.ownBlock = some b ∧ W.heap.size ≤ b) (hl : rows.length = xs.length) (hf : ∀ (j : Nat) (x : α) (c : List Value), xs[j]? = some x → rows[j]? = some c → FK d W okp x c)
  (hok : ∀ k, okp k → ok k) (hfresh : ok W.heap.size) : N d e w1 base ok v1 xs := by
 obtain ⟨b, hb, hle⟩ := hat
 refine ⟨fun k hk => by rw [hR.1 k hk]; exact hfresh, rows, hl, raw_tight hR, fun j x c hx hc => ?_⟩
 refine FK_mono (FK_step (FK_bound (hf j x c hx hc)) (fun k hk hlt => hg.block k hlt (by simp))) (fun k hk => ⟨hok k hk.1, fun he => ?_⟩)
 rw [hb] at he
 injection he with he
 have := hk.2
 omega
theorem N_written {rows : List (List Value)} {i : Int} {x' : α} {c' : List Value} (h0 : ∀ k, (Value.slice (some ⟨g, 0, none⟩) n cap).ownBlock = some k → ok k) (hl : rows.length = xs.length) (hf : ∀ (j : Nat) (x : α) (c : List Value), xs[j]? = some x → rows[j]? = some c → FK d W (fun k => ok k ∧ some k ≠ (Value.slice (some ⟨g, 0, none⟩) n cap).ownBlock) x c)
  (hR : (raw d.sz).R e w1 base (fun _ => True) (.slice (some ⟨g, 0, none⟩) n cap) (rows.set i.toNat c')) (hg : W.grownBy w1 (some g)) (hM : FK d W okp x' c') (hokp : ∀ k, okp k → ok k ∧ k ≠ g) : N d e w1 base ok (.slice (some ⟨g, 0, none⟩) n cap) (xs.set i.toNat x') := by
 have hgo : some g = (Value.slice (some ⟨g, 0, none⟩) n cap).ownBlock := by simp [Value.ownBlock]
 refine ⟨h0, rows.set i.toNat c', by rw [List.length_set, List.length_set, hl], raw_tight hR, fun j x c hx hc => ?_⟩
 have hjl : j < xs.length := by have := (List.getElem?_eq_some_iff.1 hx).1; rwa [List.length_set] at this
 by_cases hji : j = i.toNat
 ·
  subst hji
  rw [List.getElem?_set_self hjl] at hx
  rw [List.getElem?_set_self (by omega)] at hc
  injection hx with hx
  injection hc with hc
  rw [← hx, ← hc]
  exact FK_mono (FK_step hM (fun k hk hlt => hg.block k hlt (fun he => (hokp k hk).2 (by injection he)))) (fun k hk => ⟨(hokp k hk).1, fun he => (hokp k hk).2 (by rw [← hgo] at he; injection he)⟩)
 ·
  rw [List.getElem?_set_ne (Ne.symm hji)] at hx hc
  exact FK_step (hf j x c hx hc) (fun k hk hlt => hg.block k hlt (by rw [hgo]; exact hk.2))
theorem N_seg (h : N d e W base ok (.slice (some ⟨g, 0, none⟩) n cap) xs) (i : Int) (h0 : 0 ≤ i) (h1 : i < n) {c seg : List Value} {j : Nat} (hcl : c.length = d.sz) (hcc : ∀ j u, c[j]? = some u → W.cell? ⟨g, i.toNat * d.sz + j, none⟩ = some u)
  (hj : j + seg.length ≤ d.sz) {x' : α} (hM : FK d W okp x' (c.take j ++ seg ++ c.drop (j + seg.length))) (hokp : ∀ k, okp k → ok k ∧ k ≠ g) :
  N d e (W.setCells g (i.toNat * d.sz + j) seg) base ok (.slice (some ⟨g, 0, none⟩) n cap) (xs.set i.toNat x') ∧ W.grownBy (W.setCells g (i.toNat * d.sz + j) seg) (some g) := by
 obtain ⟨hown, rows, hl, hR, hf⟩ := h
 obtain ⟨h2, h3⟩ := R_seg (raw_any hR) i h0 h1 (c := c) (seg := seg) (j := j) (x' := c.take j ++ seg ++ c.drop (j + seg.length)) (okp := fun _ => False) hcl hcc hj ⟨rfl, d.K_len (FK_now hM), d.K_one (FK_now hM)⟩ (fun _ hk => hk.elim)
 exact ⟨N_written hown hl hf h2 h3 hM hokp, h3⟩
theorem reads_raw {Rr : α → List Value → Prop} {sz m : Nat} {A : Option Addr} (h : q2b Rr sz W A m ys) (hR : ∀ x c, Rr x c → c.length = sz ∧ ∀ u ∈ c, u.oneCell' = true) :
  ∃ news : List (List Value), news.length = ys.length ∧ q2b (fun x cs => cs = x ∧ cs.length = sz ∧ ∀ u ∈ cs, u.oneCell' = true) sz W A m news ∧ ∀ (j : Nat) (x : α) (c : List Value), ys[j]? = some x → news[j]? = some c → Rr x c := by
 rcases Nat.eq_zero_or_pos m with h0 | hp
 ·
  have hy : ys = [] := List.eq_nil_of_length_eq_zero (h.1.trans h0)
  subst hy
  exact ⟨[], rfl, ⟨h0 ▸ rfl, h.2.1, fun hp => by omega⟩, fun j x c hx => by simp at hx⟩
 ·
  obtain ⟨ad, rfl, _⟩ := h.2.2 hp
  obtain ⟨inner, hr, hc⟩ := q2b.inner_ h
  refine ⟨chunks sz ys.length inner, q1o _ _ _, ⟨by rw [q1o]; exact h.1, h.2.1, fun _ => ⟨ad, rfl, fun j p hj => ?_⟩⟩, fun j x c hx hcc => ?_⟩
  ·
   have hjl : j < ys.length := by have := (List.getElem?_eq_some_iff.1 hj).1; rwa [q1o] at this
   have hpe := q4t hj
   have hq := hR _ _ (hr.2 j _ (List.getElem?_eq_getElem hjl))
   rw [← hpe] at hq
   refine ⟨p, hq.1, ⟨rfl, hq⟩, fun i u hu => ?_⟩
   have hu2 : inner[j * sz + i]? = some u := by
    rw [hpe, List.getElem?_take] at hu
    split at hu
    ·
     rw [List.getElem?_drop] at hu
     exact hu
    ·
     cases hu
   exact hc _ u hu2
  ·
   rw [q4t hcc]
   exact hr.2 j x hx
end
section
variable {P : Program} {ops : Array Oper} {rest : List Oper} {o : Oper} {a : Act} {Q : Exit → Act → World → Prop} {Kc : Act → World → Prop} {α : Type}
theorem N_append_rows (d : Kd α) {w0 W : World} (base : Nat) (hgd : o.guard = none) (s x : Operand) (t e : TypeId) (z : Value) (bytes : Nat)
  (ho : o.op = .call { callee := .builtin .append, args := #[s, x], argTypes := #[t, t] })
  (ht : P.underlying t = some (.slice e)) (hinfo : (P.info? e).map (fun i => (i.zero, i.size, i.bytes)) = some (some z, d.sz, bytes)) (hz : z.cells.size = d.sz) (hs0 : 0 < d.sz) (hb0 : 0 < bytes)
  (v : Value) (xs ys : List α) (A : Option Addr) (m c : Nat) (ok okp : Nat → Prop) (hs : a.eval s = v) (hx : a.eval x = .slice A m c)
  (HO : N d e W base ok v xs) (HR : F d W okp A m ys) (hokp : ∀ k, okp k → ok k ∧ some k ≠ v.ownBlock) (hfresh : ∀ k, W.heap.size ≤ k → ok k)
  (HB : Below base w0 W) (hbase : base ≤ W.heap.size) (hl : (xs.length + m) * bytes ≤ 140737488355328)
  (h : ∀ v1 w1, N d e w1 base ok v1 (xs ++ ys) → Below base w0 w1 → W.grownBy w1 v.ownBlock → (v1.ownBlock = v.ownBlock ∨ ∃ b, v1.ownBlock = some b ∧ W.heap.size ≤ b) → wpList P ops Q rest (a.put o.dst v1) w1) :
  wpList P ops Q (o :: rest) a W := by
 obtain ⟨h0, rows, hlr, hR, hf⟩ := HO
 obtain ⟨news, hnl, hnr, hnf⟩ := reads_raw (F_rows HR) (fun y c hk => ⟨d.K_len (FK_now hk), d.K_one (FK_now hk)⟩)
 refine R_append_rows (raw d.sz) base hgd s x t e z bytes ho ht hinfo hz hs0 hb0 v rows news A m c (fun _ => True) (fun _ => False) hs hx (raw_any hR) hnr (fun _ _ hk => hk) (fun _ hk => hk.elim) (fun _ _ => trivial) HB hbase (by rw [hlr]; exact hl) ?_
 intro v1 w1 hr hb hg hat
 exact h v1 w1 (N_appended h0 hlr hf hnl hnf hokp hfresh hr hg hat) hb hg hat
theorem N_lit (d : Kd α) {w0 W : World} (base e : Nat) (hgd : o.guard = none) {N' : Tmp} (_hd : o.dst = some N') {xs : List α} {inner : List Value} {ok okp : Nat → Prop}
  (hrun : (execOp a.eval o).run P W = .ok (.value (.slice (some ⟨W.heap.size, 0, none⟩) xs.length xs.length)) (W.alloc (.cells inner.toArray e)))
  (hrep : Reps (FK d W okp) d.sz xs inner) (hok : ∀ k, okp k → ok k) (hfresh : ok W.heap.size) (HB : Below base w0 W) (hbase : base ≤ W.heap.size) (hm : xs.length ≤ 9223372036854775807)
  (h : ∀ v1 w1, N d e w1 base ok v1 xs → Below base w0 w1 → W.grownBy w1 none → (∃ b, v1.ownBlock = some b ∧ W.heap.size ≤ b) → wpList P ops Q rest (a.put o.dst v1) w1) :
  wpList P ops Q (o :: rest) a W := by
 refine R_lit (raw d.sz) base e hgd _hd (xs := chunks d.sz xs.length inner) (inner := inner) (ok := fun k => k = W.heap.size) (okp := fun _ => False) (by rw [q1o]; exact hrun) (reps_raw hrep (fun y c hk => ⟨d.K_len (FK_now hk), d.K_one (FK_now hk)⟩)) (fun _ hk => hk.elim) rfl HB hbase (by rw [q1o]; exact hm) ?_
 intro v1 w1 hr hb hg hat
 exact h v1 w1 (N_made hr hg hat (q1o _ _ _) (fun j y c hy hc => by rw [q4t hc]; exact hrep.2 j y hy) hok hfresh) hb hg hat
end
end Kd
end Go.YW.PrintWords
namespace Go.YW.PrintMore
open Go.RowKit Go.YW.PrintWords
namespace Kd
open Go.YW.PrintWords.Kd
end Kd
namespace Kd
open Go.YW.PrintWords.Kd
section
variable {α : Type} {d : Kd α} {e base g N : Nat} {ok : Nat → Prop} {W w1 : World} {u v : Value} {xs : List α}
end
end Kd
theorem q0y (k k' : IntKind) (x y : Int) : Builtin.max2 (.int k x) (.int k' y) = pure (.int k (if x < y then y else x)) := by simp only [Builtin.max2, gt_iff_lt]
theorem q0w (k k' : IntKind) (x y : Int) : Builtin.min2 (.int k x) (.int k' y) = pure (.int k (if y < x then y else x)) := by simp only [Builtin.min2]
theorem q1g (ats : Array TypeId) (ty : TypeId) (a b : Value) : Builtin.max_ ats ty #[a, b] = (Builtin.max2 a b >>= fun s => pure s) := by simp only [Builtin.max_, List.foldlM_cons, List.foldlM_nil]
theorem q1f (ats : Array TypeId) (ty : TypeId) (a b : Value) : Builtin.min_ ats ty #[a, b] = (Builtin.min2 a b >>= fun s => pure s) := by simp only [Builtin.min_, List.foldlM_cons, List.foldlM_nil]
theorem q0t (ats : Array TypeId) (ty : TypeId) (a b c : Value) : Builtin.max_ ats ty #[a, b, c] = (Builtin.max2 a b >>= fun s => Builtin.max2 s c >>= fun s => pure s) := by simp only [Builtin.max_, List.foldlM_cons, List.foldlM_nil]
theorem q0s (ats : Array TypeId) (ty : TypeId) (a b c : Value) : Builtin.min_ ats ty #[a, b, c] = (Builtin.min2 a b >>= fun s => Builtin.min2 s c >>= fun s => pure s) := by simp only [Builtin.min_, List.foldlM_cons, List.foldlM_nil]
theorem q0x (ats : Array TypeId) (ty : TypeId) (a b c d : Value) : Builtin.max_ ats ty #[a, b, c, d] = (Builtin.max2 a b >>= fun s => Builtin.max2 s c >>= fun s => Builtin.max2 s d >>= fun s => pure s) := by simp only [Builtin.max_, List.foldlM_cons, List.foldlM_nil]
theorem q0v (ats : Array TypeId) (ty : TypeId) (a b c d : Value) : Builtin.min_ ats ty #[a, b, c, d] = (Builtin.min2 a b >>= fun s => Builtin.min2 s c >>= fun s => Builtin.min2 s d >>= fun s => pure s) := by simp only [Builtin.min_, List.foldlM_cons, List.foldlM_nil]
end Go.YW.PrintMore
namespace Go.YW.PrintWords
open Go.RowKit
section
variable {P : Program} {ops : Array Oper} {rest : List Oper} {o : Oper} {a : Act} {Q : Exit → Act → World → Prop} {W : World}
theorem q3o {b : Builtin} {xs : Array Operand} {ts : Array TypeId} (_ho : o.op = .call { callee := .builtin b, args := xs, argTypes := ts }) (h : wpList P ops Q (o :: rest) a W) : wpList P ops Q (o :: rest) a W := h
end
def mx (a b : Int) : Int := if a < b then b else a
def mn (a b : Int) : Int := if b < a then b else a
namespace Kd
section
variable {α : Type} {d : Kd α} {e base : Nat} {ok : Nat → Prop} {W w1 : World} {v : Value} {xs : List α}
theorem R_grown2 (h : d.R e W base ok v xs) (hE : d.E = []) {row : Option Nat} (hg : W.grownBy w1 row) (hne : ∀ k, row = some k → some k ≠ v.ownBlock) : d.R e w1 base ok v xs :=
 R_mono (R_grown (R_tight hE h) hg (fun k hk e_ => hne k e_.symm hk)) (fun k hk => h.1 k hk.symm)
end
section
variable {α : Type} {d : Kd α} {e base g n cap : Nat} {ok oki okp : Nat → Prop} {W : World} {xs : List α} {i : Int} {c : List Value}
end
section
variable {α : Type} {d : Kd α} {e base b b' g N : Nat} {ok ok1 : Nat → Prop} {W W2 w1 : World} {u v : Value} {xs ys : List α} {S : Nat → Prop}
end
end Kd
end Go.YW.PrintWords
namespace Go.YW.PrintWords
open Go.RowKit
namespace Kd
def V {α : Type} (d : Kd α) (_e : Nat) (W : World) (_base : Nat) (ok : Nat → Prop) (v : Value) (xs : List α) : Prop := ∃ A c, v = .slice A xs.length c ∧ xs.length ≤ c ∧ F d W ok A xs.length xs
section
variable {α β : Type} {d : Kd α} {e base base' n m c g N' lo hi : Nat} {ok ok' S : Nat → Prop} {w W w1 : World} {A : Option Addr} {ad : Addr} {u v v1 : Value} {xs : List α}
theorem V_map (h : V d e W base ok v xs) (hF : ∀ A, F d W ok A xs.length xs → F d w1 ok' A xs.length xs) : V d e w1 base' ok' v xs := by
 obtain ⟨A, c, hv, hl, hf⟩ := h
 exact ⟨A, c, hv, hl, hF A hf⟩
theorem V_mk (hl : xs.length ≤ c) (hf : F d W ok A xs.length xs) : V d e W base ok (.slice A xs.length c) xs := ⟨A, c, rfl, hl, hf⟩
theorem V_slice (h : V d e W base ok v xs) : ∃ A c, v = .slice A xs.length c := by
 obtain ⟨A, c, hv, _⟩ := h
 exact ⟨A, c, hv⟩
theorem V_at (h : V d e W base ok (.slice A n c) xs) : n = xs.length ∧ n ≤ c ∧ F d W ok A xs.length xs := by
 obtain ⟨A', c', hv, hl, hf⟩ := h
 injection hv with ha hn hc
 subst ha; subst hc
 exact ⟨hn, by rw [hn]; exact hl, hf⟩
theorem V_reads' (h : V d e W base ok (.slice A n c) xs) : n = xs.length ∧ n ≤ c ∧ d.C W A xs.length xs := ⟨(V_at h).1, (V_at h).2.1, F_now (V_at h).2.2⟩
theorem V_nil (d : Kd α) (e : Nat) (W : World) (base : Nat) (ok : Nat → Prop) : V d e W base ok (.slice none 0 0) [] := ⟨none, 0, rfl, Nat.le_refl _, F_nil d W ok⟩
theorem R_V (h : d.R e W base ok v xs) : V d e W base' ok v xs := by
 obtain ⟨A, c, rfl⟩ := R_slice h
 exact ⟨A, c, rfl, (R_reads' h).2.1, R_F h⟩
theorem S_V (h : Kd.S d e W base ok v xs) : V d e W base' ok v xs := R_V (S_R h)
theorem N_V (h : N d e W base ok v xs) : V d e W base' ok v xs := by
 obtain ⟨A, c, rfl⟩ := N_slice h
 exact ⟨A, c, rfl, (N_reads' h).2.1, N_F h⟩
theorem V_mono (h : V d e W base ok v xs) (hok : ∀ k, ok k → ok' k) : V d e W base ok' v xs := V_map h (fun _ hf => F_mono hf hok)
theorem V_lower (h : V d e W base ok v xs) (_ : base' ≤ base) : V d e W base' ok v xs := h
theorem V_below (h : V d e W base ok v xs) (hb : Below W.heap.size W w1) : V d e w1 base ok v xs := V_map h (fun _ hf => F_below hf hb)
theorem V_alloc (h : V d e W base ok v xs) (o : Obj) : V d e (W.alloc o) base ok v xs := V_map h (fun _ hf => F_alloc hf o)
theorem V_drew (h : V d e W base ok v xs) : V d e W.drew base ok v xs := V_map h (fun _ hf => F_drew hf)
theorem V_drewN (h : V d e W base ok v xs) (m : Nat) : V d e (W.drewN m) base ok v xs := V_map h (fun _ hf => F_drewN hf m)
theorem V_far (h : V d e W base ok v xs) {p : Addr} (hok : ∀ k, ok k → k ≠ p.block) (u : Value) : V d e (W.setCell p u) base ok v xs := V_map h (fun _ hf => F_far hf hok u)
theorem V_elderB (h : V d e W base ok v xs) (a : Nat) (ha : W.heap.size ≤ a) : V d e W base (fun k => ok k ∧ k ≠ a) v xs := V_map h (fun _ hf => F_elderB hf a ha)
theorem F_take (h : F d W ok A xs.length xs) (hm : m ≤ xs.length) : F d W ok A (xs.take m).length (xs.take m) := F_imp h (fun _ hC => C_take hC hm)
end
end Kd
end Go.YW.PrintWords
namespace Go.YW.Sq
open Go.RowKit Go.YW.PrintWords Go.YW.PrintLast Go.YW.PrintMore
set_option linter.unusedVariables false
def Gr (S : Nat → Prop) (w W : World) : Prop := ∀ P : World → Prop, (∀ X o, P X → P (X.alloc o)) → (∀ X n, P X → P (X.drewN n)) → (∀ X, P X → P X.drew) → (∀ X g j v, S g → P X → P (X.setCell ⟨g, j, none⟩ v)) → P w → P W
section
variable {S : Nat → Prop} {w W : World}
theorem Gr.r (S : Nat → Prop) (w : World) : Gr S w w := fun _ _ _ _ _ h => h
theorem Gr.a (h : Gr S w W) (o : Obj) : Gr S w (W.alloc o) := fun P a b c s k => a _ _ (h P a b c s k)
theorem Gr.n (h : Gr S w W) (n : Nat) : Gr S w (W.drewN n) := fun P a b c s k => b _ _ (h P a b c s k)
theorem Gr.d (h : Gr S w W) : Gr S w W.drew := fun P a b c s k => c _ (h P a b c s k)
theorem Gr.s {g j : Nat} {v : Value} (h : Gr S w W) (hg : S g) : Gr S w (W.setCell ⟨g, j, none⟩ v) := fun P a b c s k => s _ _ _ _ hg (h P a b c s k)
def Pt (g t : Nat) (cs : Array Value) (w : World) (cs' : Array Value) (W : World) : Prop := w.heap[g]? = some (.cells cs t (0, 0)) → W.heap[g]? = some (.cells cs' t (0, 0))
variable {g t : Nat} {cs c1 c2 : Array Value}
theorem Pt.r : Pt g t cs w cs w := fun h => h
theorem Pt.a (h : Pt g t cs w c1 W) (o : Obj) : Pt g t cs w c1 (W.alloc o) := fun k => q0h (h k) o
theorem Pt.n (h : Pt g t cs w c1 W) (n : Nat) : Pt g t cs w c1 (W.drewN n) := fun k => q0r (h k) n
theorem Pt.d (h : Pt g t cs w c1 W) : Pt g t cs w c1 W.drew := fun k => q0g (h k)
theorem Pt.f {g' j : Nat} {v : Value} (h : Pt g t cs w c1 W) (hn : g ≠ g') : Pt g t cs w c1 (W.setCell ⟨g', j, none⟩ v) := fun k => q0l (h k) hn v
theorem Pt.p {i : Nat} {u : Value} (h : Pt g t cs w c1 W) (e : c1.setIfInBounds i u = c2) : Pt g t cs w c2 (W.setCell ⟨g, i, none⟩ u) := fun k => q0o (h k) i u e
end
section
variable {w w0 W W' : World} {g g' b base e t n : Nat} {o : Obj} {ok : Nat → Prop} {α : Type} {d : Kd α} {xs : List α} {v : Value} {A : Option Addr} {cs cs' : Array Value}
theorem ga {S : Nat → Prop} (h : Gr S w W := by with_reducible repeat (first | exact Gr.r _ _ | apply Gr.a | apply Gr.n | apply Gr.d | refine Gr.s ?_ (by first | exact q0f.out (by assumption) | exact Ne.symm (q0f.out (by assumption))))) : Gr S w W := h
theorem gc {S : Nat → Prop} (h : Gr S w W := by with_reducible repeat (first | exact Gr.r _ _ | apply Gr.a | apply Gr.n | apply Gr.d)) : Gr S w W := h
theorem gv {S : Nat → Prop} (h : Gr S w W := by (repeat (first | (with_reducible first | exact Gr.r _ _ | apply Gr.a | apply Gr.n | apply Gr.d) | refine Gr.s ?_ (fun _ hk => by (try dsimp only at hk); first | exact hk | exact hk.2 | exact hk.2.1 | exact hk.1 | exact hk.2.2.1 | exact hk.1.2 | exact hk.2.2.2 | omega)))) : Gr S w W := h
theorem gp (h : Pt g t cs w cs' W := by ((with_reducible repeat (first | exact Pt.r | apply Pt.a | apply Pt.n | apply Pt.d | apply Pt.p | (apply Pt.f; case hn => first | exact q0f.out (by assumption) | exact Ne.symm (q0f.out (by assumption))))); (all_goals first | rfl | skip))) : Pt g t cs w cs' W := h
theorem gm {ok' : Nat → Prop} (h : ∀ k, ok k → ok' k := by (intro k hk; first | exact hk | ((try simp only [and_assoc] at hk); ((repeat' apply And.intro) <;> first | exact hk | exact hk.1 | exact hk.2 | exact hk.2.1 | exact hk.2.2 | exact hk.2.2.1 | exact hk.2.2.2 | exact hk.2.2.2.1 | exact hk.2.2.2.2 | exact hk.2.2.2.2.1 | exact hk.2.2.2.2.2 | exact hk.2.2.2.2.2.1)) | ((try dsimp only at hk ⊢); omega) | grind)) : ∀ k, ok k → ok' k := h
theorem am {p : Prop} (h : p) : q0f p := ⟨h⟩
theorem pk (h : w.heap[g]? = some o) (s : Gr (fun x => g ≠ x) w W := by exact ga) : W.heap[g]? = some o :=
 s (fun X => X.heap[g]? = some o) (fun _ _ h => q0h h _) (fun _ _ h => q0r h _) (fun _ h => q0g h) (fun X g' j v hg h => (Below.heap_setCell X ⟨g', j, none⟩ v g hg).trans h) h
theorem pP (h : w.heap[g]? = some (.cells cs t (0, 0))) (s : Pt g t cs w cs' W := by exact gp) : W.heap[g]? = some (.cells cs' t (0, 0)) := s h
theorem pV (h : Kd.V d e w base ok v xs) (s : Gr (fun x => ∀ k, ok k → k ≠ x) w W := by exact gv) : Kd.V d e W base ok v xs :=
 s (fun X => Kd.V d e X base ok v xs) (fun _ _ h => Kd.V_alloc h _) (fun _ _ h => Kd.V_drewN h _) (fun _ h => Kd.V_drew h) (fun X g' j v hg h => Kd.V_far (p := ⟨g', j, none⟩) h hg v) h
theorem pR (h : Kd.R d e w base ok v xs) (s : Gr (fun x => ∀ k, ok k → k ≠ x) w W := by exact gv) : Kd.R d e W base ok v xs :=
 s (fun X => Kd.R d e X base ok v xs) (fun _ _ h => Kd.R_alloc h _) (fun _ _ h => Kd.R_drewN h _) (fun _ h => Kd.R_drew h) (fun X g' j v hg h => Kd.R_far (p := ⟨g', j, none⟩) h hg v) h
theorem pS (h : Kd.S d e w base ok v xs) (s : Gr (fun x => ∀ k, ok k → k ≠ x) w W := by exact gv) : Kd.S d e W base ok v xs :=
 s (fun X => Kd.S d e X base ok v xs) (fun _ _ h => Kd.S_alloc h _) (fun _ _ h => Kd.S_drewN h _) (fun _ h => Kd.S_drew h) (fun X g' j v hg h => Kd.S_far (p := ⟨g', j, none⟩) h hg v) h
theorem pC (h : Kd.C d w A n xs) (s : Gr (fun _ => False) w W := by exact gc) : Kd.C d W A n xs :=
 s (fun X => Kd.C d X A n xs) (fun _ _ h => Kd.C_alloc h _) (fun _ _ h => Kd.C_drewN h _) (fun _ h => Kd.C_drew h) (fun _ _ _ _ hg _ => hg.elim) h
theorem pB (h : Below w0.heap.size w0 w) (s : Gr (fun x => w0.heap.size ≤ x) w W := by exact ga) : Below w0.heap.size w0 W :=
 s (fun X => Below w0.heap.size w0 X) (fun _ _ h => q0d h _) (fun _ _ h => q0m h _) (fun _ h => q0a h) (fun _ _ _ _ hg h => q0n h hg) h
theorem nl (hg : g' = W.heap.size) (h : W.heap[g]? = some o) : g ≠ g' := hg ▸ Nat.ne_of_lt (q2h h)
theorem ng (hg : g' = W.heap.size) (h : W.heap[g]? = some o) : g' ≠ g := (nl hg h).symm
theorem gs (hg : g' = W.heap.size) (h : Below w0.heap.size w0 W) : w0.heap.size ≤ g' := hg ▸ q0p h
end
section
variable {w : World} {g t : Nat} {a b c d e f : Value}
theorem ce1 (h : w.heap[g]? = some (.cells #[a] t (0, 0))) : w.cell? ⟨g, 0, none⟩ = some a := (q0i h 0).trans rfl
theorem ce2 (h : w.heap[g]? = some (.cells #[a, b] t (0, 0))) : w.cell? ⟨g, 0, none⟩ = some a ∧ w.cell? ⟨g, 1, none⟩ = some b := ⟨(q0i h 0).trans rfl, (q0i h 1).trans rfl⟩
theorem ce4 (h : w.heap[g]? = some (.cells #[a, b, c, d] t (0, 0))) : w.cell? ⟨g, 0, none⟩ = some a ∧ w.cell? ⟨g, 1, none⟩ = some b ∧ w.cell? ⟨g, 2, none⟩ = some c ∧ w.cell? ⟨g, 3, none⟩ = some d := ⟨(q0i h 0).trans rfl, (q0i h 1).trans rfl, (q0i h 2).trans rfl, (q0i h 3).trans rfl⟩
theorem ce5 (h : w.heap[g]? = some (.cells #[a, b, c, d, e] t (0, 0))) : w.cell? ⟨g, 0, none⟩ = some a ∧ w.cell? ⟨g, 1, none⟩ = some b ∧ w.cell? ⟨g, 2, none⟩ = some c ∧ w.cell? ⟨g, 3, none⟩ = some d ∧ w.cell? ⟨g, 4, none⟩ = some e := ⟨(q0i h 0).trans rfl, (q0i h 1).trans rfl, (q0i h 2).trans rfl, (q0i h 3).trans rfl, (q0i h 4).trans rfl⟩
theorem z1 {cs : Array Value} (h : w.heap[g]? = some (.cells cs t (0, 0))) : w.frozen? ⟨g, 0, none⟩ = false := q0k h 0
theorem z2 {cs : Array Value} (h : w.heap[g]? = some (.cells cs t (0, 0))) : w.frozen? ⟨g, 0, none⟩ = false ∧ w.frozen? ⟨g, 1, none⟩ = false := ⟨q0k h 0, q0k h 1⟩
theorem z3 {cs : Array Value} (h : w.heap[g]? = some (.cells cs t (0, 0))) : w.frozen? ⟨g, 0, none⟩ = false ∧ w.frozen? ⟨g, 1, none⟩ = false ∧ w.frozen? ⟨g, 2, none⟩ = false := ⟨q0k h 0, q0k h 1, q0k h 2⟩
theorem z4 {cs : Array Value} (h : w.heap[g]? = some (.cells cs t (0, 0))) : w.frozen? ⟨g, 0, none⟩ = false ∧ w.frozen? ⟨g, 1, none⟩ = false ∧ w.frozen? ⟨g, 2, none⟩ = false ∧ w.frozen? ⟨g, 3, none⟩ = false := ⟨q0k h 0, q0k h 1, q0k h 2, q0k h 3⟩
theorem z5 {cs : Array Value} (h : w.heap[g]? = some (.cells cs t (0, 0))) : w.frozen? ⟨g, 0, none⟩ = false ∧ w.frozen? ⟨g, 1, none⟩ = false ∧ w.frozen? ⟨g, 2, none⟩ = false ∧ w.frozen? ⟨g, 3, none⟩ = false ∧ w.frozen? ⟨g, 4, none⟩ = false := ⟨q0k h 0, q0k h 1, q0k h 2, q0k h 3, q0k h 4⟩
end
section
variable {P : Program} {ops : Array Oper} {rest : List Oper} {o : Oper} {a : Act} {Q : Exit → Act → World → Prop} {W : World}
end
section
variable {P : Program} {md : Region.Mode} {ops : Array Oper} {Q : Exit → Act → World → Prop} {S : World → Prop} {ds : List Nat} {fuel : Nat} {l : Array Bool} {a : Act} {w : World} {T : Bool × List (List Nat × List Nat)} {B : List Nat}
def ba (n m : Nat) : Array Bool := ((List.range n).map fun j => m.testBit j).toArray
theorem pu {oi : Oper} {v : Value} {a' : Act} (i : Nat) (N : Tmp) (l' : Array Bool) (hT : q0f (rtab md ops = T)) (h : q0q P md ops Q S ds fuel l' a' w)
  (hi : ops[i]? = some oi := by rfl) (hN : oi.dst = some N := by rfl) (hc : anyT T l.toList l'.toList i = true := by kernel_rfl) (hQ : ∀ c a w, Q (.panic c) (a.put oi.dst v) w → Q (.panic c) a w := by exact fun _ _ _ h => h)
  (hy : Yields P ops oi v a := by (refine Or.inl ⟨by rfl, ?_⟩; intro w'; go_simp; with_reducible rfl))
  (ha : a.put (some N) v = a' := by (simp only [Act.put, List.setIfInBounds_toArray, List.set_cons_zero, List.set_cons_succ, q2r, q2u]; rfl)) : q0q P md ops Q S ds (fuel + 1) l a w :=
 pure_ l' hi hN (any_of hT.out hc) hQ hy ha h
theorem tk {oi : Oper} {v : Value} {a' : Act} (i : Nat) (N : Tmp) (l' : Array Bool) (hT : q0f (rtab md ops = T)) (hW : q0f (q4j T.2 B = true)) (hS : S w) (h : q0q P md ops Q S ds fuel l' a' w)
  (hi : ops[i]? = some oi := by rfl) (hN : oi.dst = some N := by rfl) (hc : takeW T B ds l.toList l'.toList i = true := by kernel_rfl) (hQ : ∀ c a w, Q (.panic c) (a.put oi.dst v) w → Q (.panic c) a w := by exact fun _ _ _ h => h)
  (hy : YieldsIf P ops S oi v a := by (refine Or.inl ⟨by rfl, ?_⟩; intro w' hs; (repeat (obtain ⟨_, hs⟩ := hs)); go_simp; with_reducible rfl))
  (ha : a.put (some N) v = a' := by (simp only [Act.put, List.setIfInBounds_toArray, List.set_cons_zero, List.set_cons_succ, q2r, q2u]; rfl)) : q0q P md ops Q S ds (fuel + 1) l a w :=
 take_ l' hi hN (take_ofW hT.out hW.out hc) hQ hy hS ha h
end
theorem nb {ad x : Addr} {g : Nat} (h : ad.block ≠ g) (e : x.block = ad.block := by first | rfl | exact add_block _ _) : x.block ≠ g := fun k => h (e.symm.trans k)
theorem bc {w : World} {g t i : Nat} {cs : Array Value} {v : Value} (h : w.heap[g]? = some (.cells cs t (0, 0))) (e : cs[i]? = some v := by rfl) : w.cell? ⟨g, i, none⟩ = some v := (q0i h i).trans e
section
variable {w w0 W W' : World} {g g' b base e t n : Nat} {o : Obj} {ok : Nat → Prop} {α : Type} {d : Kd α} {xs : List α} {v : Value} {a : Addr} {A : Option Addr}
theorem kB (h : q0f (w.heap[g]? = some o)) (hb : Below W.heap.size W W') (s : Gr (fun x => g ≠ x) w W := by exact ga) : q0f (W'.heap[g]? = some o) := am (q0b (pk h.out s) hb)
theorem bS (h : q0f (Below w0.heap.size w0 w)) (hb : Below W.heap.size W W') (s : Gr (fun x => w0.heap.size ≤ x) w W := by exact ga) : q0f (Below w0.heap.size w0 W') := am (q0j (pB h.out s) hb)
theorem vB (h : q0f (Kd.V d e w base ok v xs)) (hb : Below W.heap.size W W') (s : Gr (fun x => ∀ k, ok k → k ≠ x) w W := by exact gv) : q0f (Kd.V d e W' base ok v xs) := am (Kd.V_below (pV h.out s) hb)
theorem vE (h : q0f (Kd.V d e w base ok v xs)) (hg : g = W.heap.size) (hb : Below W.heap.size W W') (s : Gr (fun x => ∀ k, ok k → k ≠ x) w W := by exact gv) : q0f (Kd.V d e W' base (fun k => ok k ∧ k ≠ g) v xs) := am (Kd.V_below (Kd.V_elderB (pV h.out s) g (Nat.le_of_eq hg.symm)) hb)
theorem nL (hg : g' = W.heap.size) (h : q0f (w.heap[g]? = some o)) (s : Gr (fun x => g ≠ x) w W := by exact ga) : q0f (g ≠ g') := am (nl hg (pk h.out s))
theorem nG (hg : g' = W.heap.size) (h : q0f (w.heap[g]? = some o)) (s : Gr (fun x => g ≠ x) w W := by exact ga) : q0f (g' ≠ g) := am (ng hg (pk h.out s))
theorem bX (h : q0f (Below w.heap.size w W)) (k : w.cell? a = some v) : W.cell? a = some v := (h.out.cell (World.block_lt_of_cell? w _ k)).trans k
theorem kP {t : Nat} {cs cs' : Array Value} (h : q0f (w.heap[g]? = some (.cells cs t (0, 0)))) (hb : Below W.heap.size W W') (s : Pt g t cs w cs' W := by exact gp) : q0f (W'.heap[g]? = some (.cells cs' t (0, 0))) := am (q0b (pP h.out s) hb)
theorem nP {t : Nat} {cs cs' : Array Value} (hg : g' = W.heap.size) (h : q0f (w.heap[g]? = some (.cells cs t (0, 0)))) (s : Pt g t cs w cs' W := by exact gp) : q0f (g ≠ g') := am (nl hg (pP h.out s))
theorem rB (h : q0f (Kd.R d e w base ok v xs)) (hb : Below W.heap.size W W') (s : Gr (fun x => ∀ k, ok k → k ≠ x) w W := by exact gv) : q0f (Kd.R d e W' base ok v xs) := am (Kd.R_below (pR h.out s) hb)
theorem kW (hw : W' = W) (h : q0f (w.heap[g]? = some o)) (s : Gr (fun x => g ≠ x) w W := by exact ga) : q0f (W'.heap[g]? = some o) := am (hw ▸ pk h.out s)
theorem pW {t : Nat} {cs cs' : Array Value} (hw : W' = W) (h : q0f (w.heap[g]? = some (.cells cs t (0, 0)))) (s : Pt g t cs w cs' W := by exact gp) : q0f (W'.heap[g]? = some (.cells cs' t (0, 0))) := am (hw ▸ pP h.out s)
theorem bW (hw : W' = W) (h : q0f (Below w0.heap.size w0 w)) (s : Gr (fun x => w0.heap.size ≤ x) w W := by exact ga) : q0f (Below w0.heap.size w0 W') := am (hw ▸ pB h.out s)
theorem vM {ok' : Nat → Prop} (h : q0f (Kd.V d e w base ok v xs)) (s : Gr (fun x => ∀ k, ok k → k ≠ x) w W := by exact gv) (m : ∀ k, ok k → ok' k := by exact gm) : q0f (Kd.V d e W base ok' v xs) := am (Kd.V_mono (pV h.out s) m)
theorem vW {ok' : Nat → Prop} (hw : W' = W) (h : q0f (Kd.V d e w base ok v xs)) (s : Gr (fun x => ∀ k, ok k → k ≠ x) w W := by exact gv) (m : ∀ k, ok k → ok' k := by exact gm) : q0f (Kd.V d e W' base ok' v xs) := am (hw ▸ Kd.V_mono (pV h.out s) m)
theorem vL {ok' : Nat → Prop} {w1 : World} (HB : q0f (Below w0.heap.size w0 w)) (h : Kd.V d e w1 W.heap.size ok v xs) (m : ∀ k, ok k → ok' k) (s : Gr (fun x => w0.heap.size ≤ x) w W := by exact ga) : q0f (Kd.V d e w1 w0.heap.size ok' v xs) := am (Kd.V_lower (Kd.V_mono h m) (q0p (pB HB.out s)))
theorem nw {a k : Nat} (h : q0f (a ≤ g)) (hs : k < a) : k ≠ g := fun e => Nat.not_le.2 hs (e ▸ h.out)
theorem fB {k : Nat} (h : q0f (w.heap[g]? = some o)) (hn : W.heap.size ≤ k) (s : Gr (fun x => g ≠ x) w W := by exact ga) : k ≠ g := Kd.freshB (pk h.out s) k hn
theorem v1 {c : Nat} (h : q0f (Kd.V d e w base ok (.slice A n c) xs)) : n ≤ c := (Kd.V_reads' h.out).2.1
theorem nn (h : q0f (g ≠ g')) : g ≠ g' ∧ g' ≠ g := ⟨h.out, h.out.symm⟩
theorem er {p : Prop} (h : p := by first | rfl | (simp [q1t, q1s] <;> rfl) | (simp [*, q1t, q1s] <;> rfl)) : p := h
theorem od {p : Prop} [Decidable p] (h : decide p = true := by first | (with_reducible assumption) | assumption) : p := of_decide_eq_true h
theorem el {p : Prop} (h : p := by first | rfl | (simp; done) | (simp [*]; done)) : p := h
theorem ol {p : Prop} (h : p := by first | omega | exact Nat.le_refl _) : q0f p := am h
theorem qt {a b : Int} (h : a = b) : (a == b) = true ∧ (a != b) = false := ⟨beq_iff_eq.mpr h, bne_eq_false_iff_eq.mpr h⟩
theorem qf {a b : Int} (h : ¬ a = b) : (a == b) = false ∧ (a != b) = true := ⟨beq_eq_false_iff_ne.mpr h, bne_iff_ne.mpr h⟩
end
section
variable {w : World} {g t : Nat} {a b c d e : Value}
theorem y1 (h : q0f (w.heap[g]? = some (.cells #[a] t (0, 0)))) : w.cell? ⟨g, 0, none⟩ = some a ∧ w.frozen? ⟨g, 0, none⟩ = false := ⟨ce1 h.out, z1 h.out⟩
theorem y2 (h : q0f (w.heap[g]? = some (.cells #[a, b] t (0, 0)))) : w.cell? ⟨g, 0, none⟩ = some a ∧ w.cell? ⟨g, 1, none⟩ = some b ∧ w.frozen? ⟨g, 0, none⟩ = false ∧ w.frozen? ⟨g, 1, none⟩ = false := ⟨bc h.out, bc h.out, z2 h.out⟩
theorem y3 (h : q0f (w.heap[g]? = some (.cells #[a, b, c] t (0, 0)))) : w.cell? ⟨g, 0, none⟩ = some a ∧ w.cell? ⟨g, 1, none⟩ = some b ∧ w.cell? ⟨g, 2, none⟩ = some c ∧ w.frozen? ⟨g, 0, none⟩ = false ∧ w.frozen? ⟨g, 1, none⟩ = false ∧ w.frozen? ⟨g, 2, none⟩ = false := ⟨bc h.out, bc h.out, bc h.out, z3 h.out⟩
theorem y4 (h : q0f (w.heap[g]? = some (.cells #[a, b, c, d] t (0, 0)))) : w.cell? ⟨g, 0, none⟩ = some a ∧ w.cell? ⟨g, 1, none⟩ = some b ∧ w.cell? ⟨g, 2, none⟩ = some c ∧ w.cell? ⟨g, 3, none⟩ = some d ∧ w.frozen? ⟨g, 0, none⟩ = false ∧ w.frozen? ⟨g, 1, none⟩ = false ∧ w.frozen? ⟨g, 2, none⟩ = false ∧ w.frozen? ⟨g, 3, none⟩ = false := ⟨bc h.out, bc h.out, bc h.out, bc h.out, z4 h.out⟩
theorem y5 (h : q0f (w.heap[g]? = some (.cells #[a, b, c, d, e] t (0, 0)))) : w.cell? ⟨g, 0, none⟩ = some a ∧ w.cell? ⟨g, 1, none⟩ = some b ∧ w.cell? ⟨g, 2, none⟩ = some c ∧ w.cell? ⟨g, 3, none⟩ = some d ∧ w.cell? ⟨g, 4, none⟩ = some e ∧ w.frozen? ⟨g, 0, none⟩ = false ∧ w.frozen? ⟨g, 1, none⟩ = false ∧ w.frozen? ⟨g, 2, none⟩ = false ∧ w.frozen? ⟨g, 3, none⟩ = false ∧ w.frozen? ⟨g, 4, none⟩ = false := ⟨bc h.out, bc h.out, bc h.out, bc h.out, bc h.out, z5 h.out⟩
end
section
variable {P : Program} {ops : Array Oper} {rest : List Oper} {o : Oper} {a : Act} {Q : Exit → Act → World → Prop} {W w0 w : World}
theorem gD (N : Tmp) (h : wpList P ops Q (o :: rest) a W) (_h : o.dst = some N := by exact rfl) : wpList P ops Q (o :: rest) a W := h
theorem gC (f : FuncId) {az : Array Operand} {ts : Array TypeId} (h : wpList P ops Q (o :: rest) a W) (_h : o.op = .call { callee := .value (.func f), args := az, argTypes := ts } := by exact rfl) : wpList P ops Q (o :: rest) a W := h
theorem bz (N : Tmp) (cs : Array Value) (t : TypeId) (HB : q0f (Below w0.heap.size w0 w))
  (h : ∀ g, g = W.heap.size → ∀ w1, Below W.heap.size W w1 → q0f (w1.heap[g]? = some (.cells cs t (0, 0))) → q0f (w0.heap.size ≤ g) → q0f (Below w0.heap.size w0 w1) → wpList P ops Q rest (a.put o.dst (.pointer (some ⟨g, 0, none⟩))) w1)
  (hd : o.dst = some N := by exact rfl) (hgd : o.guard = none := by exact rfl)
  (s : Gr (fun x => w0.heap.size ≤ x) w W := by exact ga)
  (hrun : (execOp a.eval o).run P W = .ok (.value (.pointer (some ⟨W.heap.size, 0, none⟩))) (W.alloc (.cells cs t (0, 0))) := by first | (go_simp; done) | (go_simp; rfl)) : wpList P ops Q (o :: rest) a W :=
 q2p hgd hd hrun fun g hg w1 hx hb => h g hg w1 hb (am hx) (am (gs hg (pB HB.out s))) (bS HB hb s)
theorem gL (N : Tmp) {f : FuncId} {fn : Func} {az : Array Operand} {ts : Array TypeId} (hf : P.funcs[f]? = some fn) (args : Array Value)
  (h : Calls P f args W fun e w' => ∃ v, e = .returned v ∧ wpList P ops Q rest (a.put (some N) v) w')
  (hd : o.dst = some N := by exact rfl) (hop : o.op = .call { callee := .value (.func f), args := az, argTypes := ts } := by exact rfl) (hg : o.guard = none := by exact rfl) (hname : (fn.name == "runtime.NumGoroutine") = false := by kernel_rfl) (hb : fn.body.isSome = true := by rfl)
  (hargs : az.map a.eval = args := by ((try simp only [List.map_toArray, List.map_cons, List.map_nil]); first | done | rfl | (simp only [List.length_drop, List.length_take]; rfl) | (simp only [*]; rfl))) : wpList P ops Q (o :: rest) a W :=
 goesL_ (some N) hd hg hf hname hb args hop hargs h
end
section
variable {P : Program} {md : Region.Mode} {ops : Array Oper} {Q : Exit → Act → World → Prop} {S : World → Prop} {ds : List Nat} {fuel : Nat} {l : Array Bool} {a : Act} {w : World} {T : Bool × List (List Nat × List Nat)}
theorem pe {oi : Oper} {a' : Act} (i : Nat) (N : Tmp) (l' : Array Bool) (hT : q0f (rtab md ops = T)) (h : q0q P md ops Q S ds fuel l' a' w)
  (hi : ops[i]? = some oi := by rfl) (hN : oi.dst = some N := by rfl) (hc : anyT T l.toList l'.toList i = true := by kernel_rfl) (hQ : ∀ c a w, Q (.panic c) (a.put oi.dst undef) w → Q (.panic c) a w := by exact fun _ _ _ h => h)
  (hy : Yields P ops oi undef a := by exact Or.inr ⟨by rfl, rfl⟩)
  (ha : a.put (some N) undef = a' := by (simp only [Act.put, List.setIfInBounds_toArray, List.set_cons_zero, List.set_cons_succ, q2r, q2u]; rfl)) : q0q P md ops Q S ds (fuel + 1) l a w :=
 pure_ l' hi hN (any_of hT.out hc) hQ hy ha h
end
section
variable {P : Program} {md : Region.Mode} {ops : Array Oper} {Q : Exit → Act → World → Prop} {S : World → Prop} {ds : List Nat} {fuel : Nat} {l : Array Bool} {a a' : Act} {w : World} {oi : Oper} {v : Value}
theorem ph (i : Nat) (N : Tmp) (l' : Array Bool) (h : q0q P md ops Q S ds fuel l' a' w)
  (hi : ops[i]? = some oi := by rfl) (hN : oi.dst = some N := by rfl) (hc : anyB md ops l l' i = true := by kernel_rfl) (hQ : ∀ c a w, Q (.panic c) (a.put oi.dst v) w → Q (.panic c) a w := by exact fun _ _ _ h => h)
  (hy : Yields P ops oi v a := by (refine Or.inl ⟨by rfl, ?_⟩; intro w'; go_simp; with_reducible rfl))
  (ha : a.put (some N) v = a' := by (simp only [Act.put, List.setIfInBounds_toArray, List.set_cons_zero, List.set_cons_succ, q2r, q2u]; rfl)) : q0q P md ops Q S ds (fuel + 1) l a w :=
 pure_ l' hi hN hc hQ hy ha h
theorem pj (i : Nat) (N : Tmp) (l' : Array Bool) (h : q0q P md ops Q S ds fuel l' a' w)
  (hi : ops[i]? = some oi := by rfl) (hN : oi.dst = some N := by rfl) (hc : anyB md ops l l' i = true := by kernel_rfl) (hQ : ∀ c a w, Q (.panic c) (a.put oi.dst undef) w → Q (.panic c) a w := by exact fun _ _ _ h => h)
  (hy : Yields P ops oi undef a := by exact Or.inr ⟨by rfl, rfl⟩)
  (ha : a.put (some N) undef = a' := by (simp only [Act.put, List.setIfInBounds_toArray, List.set_cons_zero, List.set_cons_succ, q2r, q2u]; rfl)) : q0q P md ops Q S ds (fuel + 1) l a w :=
 pure_ l' hi hN hc hQ hy ha h
theorem th (i : Nat) (N : Tmp) (l' : Array Bool) (hS : S w) (h : q0q P md ops Q S ds fuel l' a' w)
  (hi : ops[i]? = some oi := by rfl) (hN : oi.dst = some N := by rfl) (hc : takeB md ops ds l l' i = true := by kernel_rfl) (hQ : ∀ c a w, Q (.panic c) (a.put oi.dst v) w → Q (.panic c) a w := by exact fun _ _ _ h => h)
  (hy : YieldsIf P ops S oi v a := by (refine Or.inl ⟨by rfl, ?_⟩; intro w' hs; (repeat (obtain ⟨_, hs⟩ := hs)); go_simp; with_reducible rfl))
  (ha : a.put (some N) v = a' := by (simp only [Act.put, List.setIfInBounds_toArray, List.set_cons_zero, List.set_cons_succ, q2r, q2u]; rfl)) : q0q P md ops Q S ds (fuel + 1) l a w :=
 take_ l' hi hN hc hQ hy hS ha h
theorem oh (i : Nat) (N : Tmp) (l' : Array Bool) (h : ∀ K : Act → World → Prop, Shut (∀ a' w', S w' → (S w' → q0q P md ops Q S ds fuel l' a' w') → K a' w') → if Region.wanted oi (yielded ops a.tmps) = true then Oper.wp P oi a w K Q else K (a.put (some N) undef) w)
  (hi : ops[i]? = some oi := by rfl) (hN : oi.dst = some N := by rfl) (hc : q1p md ops l l' i = true := by kernel_rfl) (hd : i ∉ ds := by decide) : q0q P md ops Q S ds (fuel + 1) l a w :=
 one_ l' hi hN hc hd h
theorem nh (h : q0q P md ops Q S ds fuel l a' w) (ha : a = a' := by (show Act.put _ (some _) _ = _; simp only [Act.put, List.setIfInBounds_toArray, List.set_cons_zero, List.set_cons_succ, q2r, q2u]; rfl)) : q0q P md ops Q S ds fuel l a w :=
 norm_ ha h
end
end Go.YW.Sq
namespace Go.Proofs.Ytabmkighhmchmaa.X
open Go.RowKit Go.YW.PrintWords Go.YW.PrintLast Go.YW.PrintMore Go.YW.Sq
attribute [local go_sem] q0y q0w q1g q1f q0t q0s q0x q0v
set_option linter.unusedVariables false
set_option linter.unusedSimpArgs false
def errW : Option Int → Value
 | none => .nilIface
 | some c => .iface 0 (.int .i64 c)
theorem q1t : errW none = .nilIface := rfl
theorem q1s (c : Int) : errW (some c) = .iface 0 (.int .i64 c) := rfl
theorem info3 : (Try.prog.info? 3).map (fun i => (i.zero, i.size, i.bytes)) = some (some (.int .i64 0), 1, 8) := by kernel_rfl
theorem info4 : (Try.prog.info? 4).map (fun i => (i.zero, i.size, i.bytes)) = some (some (.bool false), 1, 1) := by kernel_rfl
theorem info49 : (Try.prog.info? 49).map (fun i => (i.zero, i.size, i.bytes)) = some (some (.agg #[(.slice none 0 0), (.int .i64 0), (.int .i64 0), (.int .i64 0)]), 4, 48) := by kernel_rfl
theorem info51 : (Try.prog.info? 51).map (fun i => (i.zero, i.size, i.bytes)) = some (some (.agg #[(.int .i64 0), (.int .i64 0), (.int .i64 0), (.int .i64 0), (.string ⟨#[]⟩)]), 5, 48) := by kernel_rfl
structure S49 where
 f0 : (List Int)
 f1 : Int
 f2 : Int
 f3 : Int
def z49 : S49 := ⟨([] : List Int), (0 : Int), (0 : Int), (0 : Int)⟩
def k49 : Kd S49 := Kd.iso (Kd.pair (Kd.slice 3 (Kd.int .i64)) (Kd.pair (Kd.int .i64) (Kd.pair (Kd.int .i64) (Kd.int .i64)))) (fun x : S49 => (x.f0, x.f1, x.f2, x.f3))
theorem k49_heap : Kd.Heap k49 := Kd.heap_iso _ (Kd.heap_pair (Kd.heap_slice 3 (Kd.heap_int .i64)) (Kd.heap_pair (Kd.heap_int .i64) (Kd.heap_pair (Kd.heap_int .i64) (Kd.heap_int .i64))))
theorem k49_open {w : World} {x : S49} {cs : List Value} (h : k49.K w x cs) : ∃ A0 c0, cs = [.slice A0 x.f0.length c0, .int .i64 x.f1, .int .i64 x.f2, .int .i64 x.f3] ∧ x.f0.length ≤ c0 ∧ (Kd.int .i64).C w A0 x.f0.length x.f0 := by
 obtain ⟨_, _, rfl, ⟨A0, c0, rfl, l0, g0⟩, ⟨_, _, rfl, rfl, ⟨_, _, rfl, rfl, rfl⟩⟩⟩ := h
 exact ⟨A0, c0, rfl, l0, g0⟩
theorem k49_mk (w : World) (x : S49) {A0 : Option Addr} {c0 : Nat} (l0 : x.f0.length ≤ c0) (g0 : (Kd.int .i64).C w A0 x.f0.length x.f0) : k49.K w x [.slice A0 x.f0.length c0, .int .i64 x.f1, .int .i64 x.f2, .int .i64 x.f3] := ⟨[.slice A0 x.f0.length c0], [.int .i64 x.f1, .int .i64 x.f2, .int .i64 x.f3], rfl, ⟨A0, c0, rfl, l0, g0⟩, ⟨[.int .i64 x.f1], [.int .i64 x.f2, .int .i64 x.f3], rfl, rfl, ⟨[.int .i64 x.f2], [.int .i64 x.f3], rfl, rfl, rfl⟩⟩⟩
theorem k49_mkM (w : World) (base : Nat) (ok : Nat → Prop) (x : S49) {v0 : Value} (g0 : (Kd.int .i64).R 3 w base ok v0 x.f0) : k49.M w base ok x [v0, .int .i64 x.f1, .int .i64 x.f2, .int .i64 x.f3] := ⟨[v0], [.int .i64 x.f1, .int .i64 x.f2, .int .i64 x.f3], rfl, ⟨v0, rfl, g0⟩, ⟨[.int .i64 x.f1], [.int .i64 x.f2, .int .i64 x.f3], rfl, rfl, ⟨[.int .i64 x.f2], [.int .i64 x.f3], rfl, rfl, rfl⟩⟩⟩
def q0e (xs : List S49) (i : Int) : S49 := xs.getD i.toNat z49
theorem q1q {w : World} {A : Option Addr} {n : Nat} {xs : List S49} (h : Kd.C k49 w A n xs) (i : Int) (h0 : 0 ≤ i) (h1 : i < n) : ∃ ad A0 c0, A = some ad ∧ w.cell? (ad.add (i.toNat * 4)) = some (.slice A0 (q0e xs i).f0.length c0) ∧ w.cell? ⟨(ad.add (i.toNat * 4)).block, (ad.add (i.toNat * 4)).off + 1, none⟩ = some (.int .i64 (q0e xs i).f1) ∧ w.cell? ⟨(ad.add (i.toNat * 4)).block, (ad.add (i.toNat * 4)).off + 2, none⟩ = some (.int .i64 (q0e xs i).f2) ∧ w.cell? ⟨(ad.add (i.toNat * 4)).block, (ad.add (i.toNat * 4)).off + 3, none⟩ = some (.int .i64 (q0e xs i).f3) ∧ (q0e xs i).f0.length ≤ c0 ∧ (Kd.int .i64).C w A0 (q0e xs i).f0.length (q0e xs i).f0 := by
 obtain ⟨ad, c, e, _, hK, a0⟩ := Kd.C_get h z49 i h0 h1
 have hc : ∀ j u, c[j]? = some u → w.cell? (ad.add (i.toNat * 4 + j)) = some u := a0
 obtain ⟨A0, c0, rfl, l0, g0⟩ := k49_open hK
 exact ⟨ad, A0, c0, e, hc 0 _ rfl, by rw [← q4d _ _ 1 (by omega)]; exact hc 1 _ rfl, by rw [← q4d _ _ 2 (by omega)]; exact hc 2 _ rfl, by rw [← q4d _ _ 3 (by omega)]; exact hc 3 _ rfl, l0, g0⟩
structure S24 where
 f0 : ByteArray
 f1 : (List S49)
def k24 : Kd S24 := Kd.iso (Kd.pair Kd.string (Kd.slice 49 k49)) (fun x : S24 => (x.f0, x.f1))
theorem k24_open {w : World} {x : S24} {cs : List Value} (h : k24.K w x cs) : ∃ A1 c1, cs = [.string x.f0, .slice A1 x.f1.length c1] ∧ x.f1.length ≤ c1 ∧ k49.C w A1 x.f1.length x.f1 := by
 obtain ⟨_, _, rfl, rfl, ⟨A1, c1, rfl, l1, g1⟩⟩ := h
 exact ⟨A1, c1, rfl, l1, g1⟩
structure S51 where
 f0 : Int
 f1 : Int
 f2 : Int
 f3 : Int
 f4 : ByteArray
def z51 : S51 := ⟨(0 : Int), (0 : Int), (0 : Int), (0 : Int), (⟨#[]⟩ : ByteArray)⟩
def k51 : Kd S51 := Kd.iso (Kd.pair (Kd.int .i64) (Kd.pair (Kd.int .i64) (Kd.pair (Kd.int .i64) (Kd.pair (Kd.int .i64) Kd.string)))) (fun x : S51 => (x.f0, x.f1, x.f2, x.f3, x.f4))
theorem k51_heap : Kd.Heap k51 := Kd.heap_iso _ (Kd.heap_pair (Kd.heap_int .i64) (Kd.heap_pair (Kd.heap_int .i64) (Kd.heap_pair (Kd.heap_int .i64) (Kd.heap_pair (Kd.heap_int .i64) Kd.heap_string))))
theorem k51_open {w : World} {x : S51} {cs : List Value} (h : k51.K w x cs) : cs = [.int .i64 x.f0, .int .i64 x.f1, .int .i64 x.f2, .int .i64 x.f3, .string x.f4] := by
 obtain ⟨_, _, rfl, rfl, ⟨_, _, rfl, rfl, ⟨_, _, rfl, rfl, ⟨_, _, rfl, rfl, rfl⟩⟩⟩⟩ := h
 exact rfl
theorem k51_openM {w : World} {base : Nat} {ok : Nat → Prop} {x : S51} {cs : List Value} (h : k51.M w base ok x cs) : cs = [.int .i64 x.f0, .int .i64 x.f1, .int .i64 x.f2, .int .i64 x.f3, .string x.f4] := by
 obtain ⟨_, _, rfl, rfl, ⟨_, _, rfl, rfl, ⟨_, _, rfl, rfl, ⟨_, _, rfl, rfl, rfl⟩⟩⟩⟩ := h
 exact rfl
theorem k51_mkM (w : World) (base : Nat) (ok : Nat → Prop) (x : S51)  : k51.M w base ok x [.int .i64 x.f0, .int .i64 x.f1, .int .i64 x.f2, .int .i64 x.f3, .string x.f4] := ⟨[.int .i64 x.f0], [.int .i64 x.f1, .int .i64 x.f2, .int .i64 x.f3, .string x.f4], rfl, rfl, ⟨[.int .i64 x.f1], [.int .i64 x.f2, .int .i64 x.f3, .string x.f4], rfl, rfl, ⟨[.int .i64 x.f2], [.int .i64 x.f3, .string x.f4], rfl, rfl, ⟨[.int .i64 x.f3], [.string x.f4], rfl, rfl, rfl⟩⟩⟩⟩
def q0c (xs : List S51) (i : Int) : S51 := xs.getD i.toNat z51
theorem q1u {w : World} {A : Option Addr} {n : Nat} {xs : List S51} (h : Kd.C k51 w A n xs) (i : Int) (h0 : 0 ≤ i) (h1 : i < n) : ∃ ad , A = some ad ∧ w.cell? (ad.add (i.toNat * 5)) = some (.int .i64 (q0c xs i).f0) ∧ w.cell? ⟨(ad.add (i.toNat * 5)).block, (ad.add (i.toNat * 5)).off + 1, none⟩ = some (.int .i64 (q0c xs i).f1) ∧ w.cell? ⟨(ad.add (i.toNat * 5)).block, (ad.add (i.toNat * 5)).off + 2, none⟩ = some (.int .i64 (q0c xs i).f2) ∧ w.cell? ⟨(ad.add (i.toNat * 5)).block, (ad.add (i.toNat * 5)).off + 3, none⟩ = some (.int .i64 (q0c xs i).f3) ∧ w.cell? ⟨(ad.add (i.toNat * 5)).block, (ad.add (i.toNat * 5)).off + 4, none⟩ = some (.string (q0c xs i).f4) := by
 obtain ⟨ad, c, e, _, hK, a0⟩ := Kd.C_get h z51 i h0 h1
 have hc : ∀ j u, c[j]? = some u → w.cell? (ad.add (i.toNat * 5 + j)) = some u := a0
 obtain rfl := k51_open hK
 exact ⟨ad, e, hc 0 _ rfl, by rw [← q4d _ _ 1 (by omega)]; exact hc 1 _ rfl, by rw [← q4d _ _ 2 (by omega)]; exact hc 2 _ rfl, by rw [← q4d _ _ 3 (by omega)]; exact hc 3 _ rfl, by rw [← q4d _ _ 4 (by omega)]; exact hc 4 _ rfl⟩
structure S27 where
 f0 : ByteArray
 f1 : S24
 f2 : Int
 f3 : (List S51)
def k27 : Kd S27 := Kd.iso (Kd.pair Kd.string (Kd.pair k24 (Kd.pair (Kd.int .i64) (Kd.slice 51 k51)))) (fun x : S27 => (x.f0, x.f1, x.f2, x.f3))
theorem k27_open {w : World} {x : S27} {cs : List Value} (h : k27.K w x cs) : ∃ A2 c2 A4 c4, cs = [.string x.f0, .string x.f1.f0, .slice A2 x.f1.f1.length c2, .int .i64 x.f2, .slice A4 x.f3.length c4] ∧ x.f1.f1.length ≤ c2 ∧ k49.C w A2 x.f1.f1.length x.f1.f1 ∧ x.f3.length ≤ c4 ∧ k51.C w A4 x.f3.length x.f3 := by
 obtain ⟨_, _, rfl, rfl, ⟨_, _, rfl, s1, ⟨_, _, rfl, rfl, ⟨A4, c4, rfl, l4, g4⟩⟩⟩⟩ := h
 obtain ⟨A2, c2, rfl, l2, g2⟩ := k24_open s1
 exact ⟨A2, c2, A4, c4, rfl, l2, g2, l4, g4⟩
end Go.Proofs.Ytabmkighhmchmaa.X
namespace Go.Proofs.Ytabmkighhmchmaa
open Go.RowKit Go.Shelf Go.YW.PrintWords Go.YW.PrintLast Go.YW.PrintMore Go.YW.Sq
open X (S49 S51 k49 k51 q0c q1u z51)
set_option linter.unusedVariables false
set_option linter.unusedSimpArgs false
attribute [local go_sem] Oper.semAt_some
abbrev runV (ky nm : ByteArray) (A1 : Option Addr) (n1 c1 : Nat) (is : Int) (A2 : Option Addr) (n2 c2 : Nat) : Array Value := #[.string ky, .string nm, .slice A1 n1 c1, .int .i64 is, .slice A2 n2 c2]
def enc51 (x : Nat × S51) : Array Value := #[.int .i64 (x.1 : Int), .agg #[.int .i64 x.2.f0, .int .i64 x.2.f1, .int .i64 x.2.f2, .int .i64 x.2.f3, .string x.2.f4]]
def upto (xs : List S51) (k : Nat) : List (Nat × S51) := (List.range k).map fun j => (j, q0c xs (j : Int))
theorem upto_succ (xs : List S51) (k : Nat) : upto xs (k + 1) = upto xs k ++ [(k, q0c xs (k : Int))] := by simp [upto, List.range_succ]
theorem upto_length (xs : List S51) (k : Nat) : (upto xs k).length = k := by simp [upto]
set_option maxHeartbeats 1000000 in
theorem q4s (ky nm : ByteArray) (A1 : Option Addr) (n1 c1 : Nat) (is : Int) (A2 : Option Addr) (n2 c2 : Nat) (w : World) :
  Calls Try.prog 43 #[.agg (runV ky nm A1 n1 c1 is A2 n2 c2)] w fun e w' => ∃ gb, e = .returned (.func (.func 78) #[] #[.pointer (some ⟨gb, 0, none⟩)]) ∧ w.heap.size ≤ gb ∧ w'.heap[gb]? = some (.cells (runV ky nm A1 n1 c1 is A2 n2 c2) 27 (0, 0)) ∧ Below w.heap.size w w' := by
 have a0 := Try.underlying27
 go_enter Try.func43, Try.ntmps43
 go_wp2
 go_ret
 exact ⟨_, rfl, Nat.le_refl _, q1j w _, q0d (Below.refl _ _) _⟩
set_option maxRecDepth 100000 in
set_option maxHeartbeats 4000000 in
theorem each1_in (n : Nat) (hn : 1 ≤ n) (l gb : Nat) (ky nm : ByteArray) (A1 : Option Addr) (n1 c1 : Nat) (is : Int) (A2 : Option Addr) (c2 : Nat) (xs : List S51) (w0 : World) (hC : Kd.C k51 w0 A2 xs.length xs) (hl : xs.length ≤ 1000000) (J Jx : List (Nat × S51) → World → Prop)
  (hJ : ∀ s W W', J s W → Below W.heap.size W W' → J s W')
  (hY : ∀ a0 x W, J a0 W → a0.length < xs.length → YieldAt Fence.wide (n - 1) Try.prog l (enc51 x) W fun e W' =>
   (e = .returned (.bool true) ∧ J (a0 ++ [x]) W' ∧ Below w0.heap.size W W') ∨ (e = .returned (.bool false) ∧ Jx (a0 ++ [x]) W'))
  (W : World) (a5 : Below w0.heap.size w0 W) (a6 : W.heap[gb]? = some (.cells (runV ky nm A1 n1 c1 is A2 xs.length c2) 27 (0, 0))) (h0 : J [] W) :
  CallsIn Fence.wide n Try.prog 78 #[.func (.yield l) #[] #[], .pointer (some ⟨gb, 0, none⟩)] W fun e W' => (∃ v, e = .returned v) ∧
   ((∃ ys, ys = upto xs xs.length ∧ J ys W') ∨ (∃ a0, (∃ k, k ≤ xs.length ∧ a0 = upto xs k) ∧ Jx a0 W')) := by
 have b4 := Try.underlying27
 have b5 := Try.underlying51
 have g4 : W.cell? ⟨gb, 4, none⟩ = some (.slice A2 xs.length c2) := bc a6
 have HW := am a5
 have HC := am hC
 have HL := am hl
 have HJ := am hJ
 have HY := am hY
 clear a5 hC hl hJ hY a6
 refine callsIn_of_wp Try.func78 rfl trivial ?_ rfl
 simp only [Try.ntmps78, List.size_toArray, List.length_cons, List.length_nil, Nat.reduceAdd, Nat.reduceSub, Array.replicate_succ, Array.replicate_zero, List.push_toArray, List.append_toArray, List.nil_append, List.cons_append]
 gi_wp2
 gi_loopw [8] (fun i wr => ∃ k : Nat, k ≤ xs.length ∧ i = .int .i64 k ∧ q0f (J (upto xs k) wr) ∧ q0f (Below w0.heap.size w0 wr))
  (fun i _ => xs.length - (intOf i).toNat)
 case atStart => exact ⟨0, Nat.zero_le _, rfl, ⟨h0⟩, HW⟩
 case round =>
  obtain ⟨k, hk, rfl, a3, HB⟩ := hrel
  by_cases b3 : k < xs.length
  ·
   obtain ⟨ad, rfl, b6, b7, b8, b9, c6⟩ := q1u (Kd.C_below HC.out HB.out) (k : Int) (by omega) (by omega)
   rw [Int.toNat_natCast] at b6 b7 b8 b9 c6
   obtain ⟨fn, tmps, a1, b1, hy, hR⟩ := HY.out _ (k, q0c xs (k : Int)) (wr.alloc (.cells #[.int .i64 (q0c xs (k : Int)).f0, .int .i64 (q0c xs (k : Int)).f1, .int .i64 (q0c xs (k : Int)).f2, .int .i64 (q0c xs (k : Int)).f3, .string (q0c xs (k : Int)).f4] 51)) (HJ.out _ _ _ a3.out (q0d (Below.refl _ _) _)) (by rw [upto_length]; exact b3)
   dsimp only [enc51] at hy
   have a8 := am (q0d HB.out (.cells #[.int .i64 (q0c xs (k : Int)).f0, .int .i64 (q0c xs (k : Int)).f1, .int .i64 (q0c xs (k : Int)).f2, .int .i64 (q0c xs (k : Int)).f3, .string (q0c xs (k : Int)).f4] 51))
   have b2 := HL.out
   gi_wp2
   refine hR.mono ?_
   rintro e W3 (⟨rfl, a4, a7⟩ | ⟨rfl, a2⟩)
   ·
    have b0 := am a4
    have a9 := am (a8.out.trans a7)
    clear a4 a7
    gi_wp2
    go_roundw
    case rel => exact ⟨k + 1, by omega, by go_num, ⟨by rw [upto_succ]; exact b0.out⟩, a9⟩
    case measure => simp [intOf]; omega
   gi_wp2
   refine bodyPost_ret (results_none rfl _ _ _) rfl ?_
   exact ⟨⟨_, rfl⟩, .inr ⟨_, ⟨k + 1, by omega, (upto_succ _ _).symm⟩, a2⟩⟩
  obtain rfl : k = xs.length := by omega
  gi_wp2
  go_end0
  exact ⟨⟨_, rfl⟩, .inl ⟨_, rfl, a3.out⟩⟩
theorem q1b {W W' : World} (h : Below W.heap.size W W') : KeepsOthers W W' := ⟨h.size, fun k o hk _ => (h.block k (q2h hk)).trans hk⟩
theorem q1d {A B : World} {row : Option Nat} {g t : Nat} {cs : Array Value} (h : A.heap[g]? = some (.cells cs t (0, 0))) (hg : A.grownBy B row) (hr : ∀ r, row = some r → ∃ o : Obj, A.heap[r]? = some o ∧ o.isCells = false) : B.heap[g]? = some (.cells cs t (0, 0)) :=
 (grownBy_keeps_cells hg hr h rfl).trans h
theorem each_stops (n : Nat) (hn : 1 ≤ n) (gb : Nat) (ky nm : ByteArray) (A1 : Option Addr) (n1 c1 : Nat) (is : Int) (A2 : Option Addr) (c2 : Nat) (xs : List S51) (w0 w : World) (hC : Kd.C k51 w0 A2 xs.length xs) (hl : xs.length ≤ 1000000) (a0 : Below w0.heap.size w0 w)
  (a1 : w.heap[gb]? = some (.cells (runV ky nm A1 n1 c1 is A2 xs.length c2) 27 (0, 0))) :
  SeqStopsK Fence.wide n Try.prog 78 #[.pointer (some ⟨gb, 0, none⟩)] enc51 (Below w0.heap.size) (fun ys => ys = upto xs xs.length) (fun a2 => ∃ k, k ≤ xs.length ∧ a2 = upto xs k) xs.length w := fun l J Jx W hW hJ _ hY h0 =>
 each1_in n hn l gb ky nm A1 n1 c1 is A2 c2 xs w0 hC hl J Jx (fun s X X' hs hb => hJ s X X' none hs (q4m hb none) (fun r e => by cases e)) hY W (q0j a0 hW) (q0b a1 hW) h0
end Go.Proofs.Ytabmkighhmchmaa
namespace Go.Proofs.Ytabmkighhmchmaa.X
open Go.RowKit Go.YW.PrintWords Go.YW.PrintLast Go.YW.PrintMore Go.YW.Sq
attribute [local go_sem] q0y q0w q1g q1f q0t q0s q0x q0v
set_option linter.unusedVariables false
set_option linter.unusedSimpArgs false
def Fp.l0 : Nat → List Int → Int → Int → Int → Option (Int)
 | 0, _, _, _, _ => none
 | k + 1, x0, x1, x7, x8 => if x8 < x7 then (if 0 ≤ x8 then (if x8 < (x0.length : Int) then (if x1 = (rd x0 x8) then (some x8) else (Fp.l0 k x0 x1 x7 (wrap64 (x8 + 1)))) else (none)) else (none)) else (some (-1))
def Fp.f (k : Nat) (l0 : List Int) (a1 : Int) : Option (Int) := Fp.l0 k l0 a1 (l0.length : Int) 0
set_option maxHeartbeats 8000000 in
set_option maxRecDepth 100000 in
theorem Fp.calls (k : Nat) (A0 : Option Addr) (c0 : Nat) (l0 : List Int) (a1 : Int) (r : Int) (w : World) (b3 : Kd.C (Kd.int .i64) w A0 l0.length l0) (b2 : l0.length ≤ c0) (h : Fp.f k l0 a1 = some r) :
  Calls Try.prog 90 #[.slice A0 l0.length c0, .int .i64 a1] w fun e w' => e = .returned (.int .i64 r) ∧ q1k w w' := by
 have b1 := am b3
 have b6 := am b2
 clear b3 b2
 unfold Fp.f at h
 have H := h
 clear h
 have H' := am H
 clear H
 go_enter Try.func90, Try.ntmps90
 go_wp2
 go_loopg [8] k (fun kq v8 w' => ∃ (a0 : Int), v8 = .int .i64 a0 ∧ q0f (Fp.l0 kq l0 a1 (l0.length : Int) a0 = some r) ∧ q0f (kq ≤ k) ∧ q1k w w')
 case atStart => exact ⟨(0), el, H', ⟨Nat.le_refl _⟩, by repeat (first | exact q1k.refl _ | apply q1k.step)⟩
 case round =>
  clear H'
  obtain ⟨a0, rfl, HA, b0, ⟨m1, rfl⟩⟩ := hrel
  cases gk with
  | zero => exact absurd HA.out (by simp [Fp.l0])
  | succ k1 =>
   have H := HA.out
   clear HA
   simp only [Fp.l0] at H
   by_cases c3 : a0 < (l0.length : Int)
   ·
    rw [if_pos c3] at H
    have a7 := decide_eq_true c3
    clear c3
    by_cases c4 : 0 ≤ a0
    ·
     rw [if_pos c4] at H
     have b4 := decide_eq_true c4
     clear c4
     by_cases c5 : a0 < (l0.length : Int)
     ·
      rw [if_pos c5] at H
      have b5 := decide_eq_true c5
      clear c5
      by_cases c6 : a1 = (rd l0 a0)
      ·
       rw [if_pos c6] at H
       obtain ⟨a8, a9⟩ := qt c6
       clear c6
       obtain rfl := Option.some.inj H
       have a2 : 0 ≤ (a0 : Int) := od
       have a3 : a0 < (l0.length : Int) := od
       obtain ⟨a6, a4, a5⟩ := Kd.at_int b1.out a0 a2 a3
       cases a4
       replace a2 := eq_true a2
       replace a3 := eq_true a3
       go_wp2
       go_ret
       exact ⟨by first | rfl | (simp; done) | (simp [*]; done), by repeat (first | exact q1k.refl _ | apply q1k.step)⟩
      rw [if_neg c6] at H
      obtain ⟨a8, a9⟩ := qf c6
      have H' := am H
      clear H
      have a2 : 0 ≤ (a0 : Int) := od
      have a3 : a0 < (l0.length : Int) := od
      obtain ⟨a6, a4, a5⟩ := Kd.at_int b1.out a0 a2 a3
      cases a4
      replace a2 := eq_true a2
      replace a3 := eq_true a3
      go_wp2
      go_roundg k1
      case measure => have := b0.out; omega
      case rel => exact ⟨(wrap64 (a0 + 1)), el, H', ⟨by have := b0.out; omega⟩, by repeat (first | exact q1k.refl _ | apply q1k.step)⟩
     rw [if_neg c5] at H
     exact absurd H (by simp)
    rw [if_neg c4] at H
    exact absurd H (by simp)
   rw [if_neg c3] at H
   have a7 := decide_eq_false c3
   clear c3
   obtain rfl := Option.some.inj H
   go_wp2
   go_ret
   exact ⟨by first | rfl | (simp; done) | (simp [*]; done), by repeat (first | exact q1k.refl _ | apply q1k.step)⟩
def F3.f (k : Nat) (l0 : List Int) (a1 : Int) : Option (Bool) := (Fp.f k l0 a1).bind fun a0 => (some (decide (a0 ≥ 0)))
set_option maxHeartbeats 8000000 in
set_option maxRecDepth 100000 in
theorem F3.calls (k : Nat) (A0 : Option Addr) (c0 : Nat) (l0 : List Int) (a1 : Int) (r : Bool) (w : World) (a4 : Kd.C (Kd.int .i64) w A0 l0.length l0) (a3 : l0.length ≤ c0) (h : F3.f k l0 a1 = some r) :
  Calls Try.prog 82 #[.slice A0 l0.length c0, .int .i64 a1] w fun e w' => e = .returned (.bool r) ∧ q1k w w' := by
 have a6 := am a4
 have a5 := am a3
 clear a4 a3
 unfold F3.f at h
 have H := h
 clear h
 replace H := Option.bind_eq_some_iff.mp H
 obtain ⟨a0, a2, H⟩ := H
 try dsimp only at H
 have A3 := am a2
 clear a2
 obtain rfl := Option.some.inj H
 go_enter Try.func82, Try.ntmps82
 go_wp2_with (first | ((with_reducible refine gC 90 ?_); refine gL 7 Try.func90 #[.slice A0 l0.length c0, .int .i64 a1] ?_; (with_reducible refine (Fp.calls k _ _ l0 a1 a0 _ ?side1 ?side2 A3.out).mono ?_); (case side1 => exact pC (a6.out)); (case side2 => exact a5.out); rintro e w' ⟨rfl, ⟨nd, rfl⟩⟩; refine ⟨_, rfl, ?_⟩))
 go_ret
 exact ⟨by first | rfl | (simp; done) | (simp [*]; done), by repeat (first | exact q1k.refl _ | apply q1k.step)⟩
end Go.Proofs.Ytabmkighhmchmaa.X
namespace Go.Proofs.Ytabmkighhmchmaa
open Go.RowKit Go.Shelf Go.YW.PrintWords Go.YW.PrintLast Go.YW.PrintMore Go.YW.Sq
open X (S49 S51 k49 k51 q0c q1u z51)
set_option linter.unusedVariables false
set_option linter.unusedSimpArgs false
attribute [local go_sem] Oper.semAt_some
theorem wrap_in (n : Int) (h : -9223372036854775808 ≤ n ∧ n ≤ 9223372036854775807) : wrap64 n = n := by unfold wrap64; omega
theorem index_l (ks : List Int) (x : Int) (hl : ks.length ≤ 1000) : ∀ m i k : Nat, i + m = ks.length → m < k →
  ∃ r, X.Fp.l0 k ks x (ks.length : Int) (i : Int) = some r ∧ decide (r ≥ 0) = (ks.drop i).contains x := by
 intro m
 induction m with
 | zero =>
  intro i k hi hk
  obtain ⟨k, rfl⟩ : ∃ q, k = q + 1 := ⟨k - 1, by omega⟩
  exact ⟨-1, by rw [X.Fp.l0, if_neg (by omega)], by rw [List.drop_eq_nil_of_le (by omega)]; rfl⟩
 | succ m ih =>
  intro i k hi hk
  obtain ⟨k, rfl⟩ : ∃ q, k = q + 1 := ⟨k - 1, by omega⟩
  have er : rd ks (i : Int) = ks[i]'(by omega) := by simp [rd, List.getD_eq_getElem?_getD, List.getElem?_eq_getElem (show i < ks.length by omega)]
  rw [List.drop_eq_getElem_cons (show i < ks.length by omega), List.contains_cons]
  by_cases e : x = ks[i]'(by omega)
  ·
   exact ⟨(i : Int), by rw [X.Fp.l0, if_pos (by omega), if_pos (by omega), if_pos (by omega), er, if_pos e], by rw [show (x == ks[i]'(by omega)) = true from beq_iff_eq.2 e, Bool.true_or]; exact decide_eq_true (by omega)⟩
  obtain ⟨r, h1, h2⟩ := ih (i + 1) k (by omega) (by omega)
  exact ⟨r, by rw [X.Fp.l0, if_pos (by omega), if_pos (by omega), if_pos (by omega), er, if_neg e, show wrap64 ((i : Int) + 1) = ((i + 1 : Nat) : Int) by rw [wrap_in _ (by omega)]; omega, h1], by rw [h2, show (x == ks[i]'(by omega)) = false from beq_eq_false_iff_ne.2 e, Bool.false_or]⟩
theorem contains_f (ks : List Int) (x : Int) (hl : ks.length ≤ 1000) : X.F3.f 1001 ks x = some (ks.contains x) := by
 obtain ⟨r, h1, h2⟩ := index_l ks x hl ks.length 0 1001 (by omega) (by omega)
 unfold X.F3.f X.Fp.f
 rw [show (0 : Int) = ((0 : Nat) : Int) from rfl, h1, Option.bind_some, ← List.drop_zero (l := ks), ← h2]
 rfl
def cntI (ks : List Int) (l : List (Nat × S51)) : Int := ((l.filter fun x => ks.contains x.2.f0).length : Int)
theorem cnt_snoc (ks : List Int) (a0 : List (Nat × S51)) (x : Nat × S51) : cntI ks (a0 ++ [x]) = cntI ks a0 + if ks.contains x.2.f0 = true then 1 else 0 := by
 unfold cntI
 rw [List.filter_append, List.length_append, List.filter_cons]
 cases ks.contains x.2.f0
 ·
  rw [if_neg (by simp), if_neg (by simp)]; simp
 rw [if_pos rfl, if_pos rfl]; simp
set_option maxRecDepth 100000 in
set_option maxHeartbeats 4000000 in
theorem count_in (ky nm : ByteArray) (A1 : Option Addr) (n1 c1 : Nat) (is : Int) (A2 : Option Addr) (c2 : Nat) (xs : List S51) (KA : Option Addr) (kc : Nat) (ks : List Int) (w : World) (hC : Kd.C k51 w A2 xs.length xs) (hl : xs.length ≤ 1000000) (hK : Kd.C (Kd.int .i64) w KA ks.length ks) (a8 : ks.length ≤ kc) (a9 : ks.length ≤ 1000) :
  Calls Try.prog 46 #[.agg (runV ky nm A1 n1 c1 is A2 xs.length c2), .slice KA ks.length kc] w fun e w' => e = .returned (.int .i64 (cntI ks (upto xs xs.length))) ∧ Below w.heap.size w w' := by
 have b6 := Try.underlying27
 have b7 := Try.underlying51
 have HC := am hC
 have HL := am hl
 have HK := am hK
 have b1 := am a8
 have b2 := am a9
 clear hC hl hK a8 a9
 refine (callsIn_wide (n := 6)).1 ?_
 refine callsIn_of_wp_marks Try.func46 rfl trivial ?_ rfl
 simp only [Try.ntmps46, List.size_toArray, List.length_cons, List.length_nil, Nat.reduceAdd, Nat.reduceSub, Array.replicate_succ, Array.replicate_zero, List.push_toArray, List.append_toArray, List.nil_append, List.cons_append]
 gi_wp2_with (refine ⟨trivial, ?_⟩; gi_at_call 43; refine (callsIn_wide.2 (q4s ky nm A1 n1 c1 is A2 xs.length c2 _)).mono ?_; rintro e w3 ⟨gb, rfl, hg, a7, hb⟩; have HG := am hg; have b0 := am a7; have a2 := am hb; clear hg a7 hb)
 have B3 := am (show w3.heap[w.heap.size + 1]? = some (.cells #[.slice KA ks.length kc] 47 (0, 0)) from q0b (by refine q0h ?_ _; have h_ := q1j (w.alloc (.cells (runV ky nm A1 n1 c1 is A2 xs.length c2) 27)) (.cells #[.slice KA ks.length kc] 47); rwa [World.size_alloc] at h_) a2.out)
 have B5 := am (show w3.heap[w.heap.size + 1 + 1]? = some (.cells #[.int .i64 (cntI ks [])] 3 (0, 0)) from q0b (by have h_ := q1j ((w.alloc (.cells (runV ky nm A1 n1 c1 is A2 xs.length c2) 27)).alloc (.cells #[.slice KA ks.length kc] 47)) (.cells #[.int .i64 0] 3); rwa [World.size_alloc, World.size_alloc] at h_) a2.out)
 have HB := am (q0j (q0d (q0d (q0d (Below.refl _ w) _) _) _) a2.out)
 have HS := am (show w.heap.size + 3 ≤ w3.heap.size by have := a2.out.size; simp at this; omega)
 clear HG a2
 refine wpIn_rangeFunc_ownH (w0 := w3) rfl (by omega) (gf := 78) (lb := #[.pointer (some ⟨gb, 0, none⟩)]) rfl trivial (enters_of Try.func78 (by kernel_rfl) rfl)
  (each_stops 5 (by omega) gb ky nm A1 n1 c1 is A2 c2 xs w w3 HC.out HL.out HB.out b0.out) belowK_t (belowK_b (by have := HS.out; omega)) (Below.refl _ _) (fun _ => rfl)
  (fun a0 W => (W.heap[w.heap.size + 1]? = some (.cells #[.slice KA ks.length kc] 47 (0, 0)) ∧ W.heap[w.heap.size + 1 + 1]? = some (.cells #[.int .i64 (cntI ks a0)] 3 (0, 0))) ∧ (Below w.heap.size w W ∧ w3.heap.size ≤ W.heap.size))
  (fun _ _ _ => False)
  (OwnFrom.and (Own.from (fun s A B b8 hs hg hr => ⟨q1d hs.1 hg hr, q1d hs.2 hg hr⟩) _) (OwnFrom.and (ownFrom_below (Nat.le_refl _) (by have := HS.out; omega)) (fun _ _ _ _ hs hg _ => Nat.le_trans hs hg.size)))
  (fun _ _ _ _ _ hs _ _ => hs)
  ⟨⟨B3.out, B5.out⟩, HB.out, Nat.le_refl _⟩
  (fun x a' W => ∃ Bx, w3.heap.size ≤ Bx ∧ W.heap[Bx]? = some (.cells #[.int .i64 x.2.f0, .int .i64 x.2.f1, .int .i64 x.2.f2, .int .i64 x.2.f3, .string x.2.f4] 51 (0, 0)) ∧ a' = { tmps := #[Value.agg (runV ky nm A1 n1 c1 is A2 xs.length c2), Value.slice KA ks.length kc, Value.pointer (some ⟨w.heap.size, 0, none⟩), Value.pointer (some ⟨w.heap.size + 1, 0, none⟩), Value.int IntKind.i64 0, Value.pointer (some ⟨w.heap.size + 1 + 1, 0, none⟩), undef, .pointer (some ⟨Bx, 0, none⟩), Value.agg (runV ky nm A1 n1 c1 is A2 xs.length c2), Value.func (Fn.func 78) #[] #[Value.pointer (some ⟨gb, 0, none⟩)], .int .i64 (x.1 : Int), .agg #[.int .i64 x.2.f0, .int .i64 x.2.f1, .int .i64 x.2.f2, .int .i64 x.2.f3, .string x.2.f4], undef, undef, undef, undef, undef, undef, undef], defers := [] })
  (fun x a' => Own.from (fun s A B b8 hs hg hr => by obtain ⟨Bx, h1, h2, h3⟩ := hs; exact ⟨Bx, h1, q1d h2 hg hr, h3⟩) _) ?assign ?body ?done ?stop
 case assign =>
  rintro l a0 x W K ⟨⟨h3, h5⟩, hB, hS⟩ hK
  have H3 := am h3
  have H5 := am h5
  have a1 := am hB
  clear h3 h5 hB
  dsimp only [enc51]
  gi_wp2
  exact hK _ _ ((KeepsOthers.alloc _ _).from _) ((Below.refl _ W).alloc a1.out.size _) ⟨⟨q0h H3.out _, q0h H5.out _⟩, q0d a1.out _, by simp; omega⟩ ⟨W.heap.size, hS, q1j _ _, rfl⟩
 case body =>
  rintro l a0 x a' W hl hr ⟨⟨h3, h5⟩, hB, hS⟩ ⟨Bx, b3, bX, rfl⟩ b5
  have H3 := am h3
  have H5 := am h5
  have a1 := am hB
  have HX := am bX
  have k3 : W.cell? ⟨w.heap.size + 1, 0, none⟩ = some (.slice KA ks.length kc) := bc h3
  have x0 : W.cell? ⟨Bx, 0, none⟩ = some (.int .i64 x.2.f0) := bc bX
  clear h3 h5 hB bX hr hl
  have k5 : W.cell? ⟨w.heap.size + 1 + 1, 0, none⟩ = some (.int .i64 (cntI ks a0)) := bc H5.out
  have f5 := q0k H5.out 0
  have a3 := contains_f ks x.2.f0 b2.out
  have HT := am hS
  have b4 : 0 ≤ cntI ks a0 ∧ cntI ks a0 ≤ 1000000 := by unfold cntI; have := List.length_filter_le (fun y : Nat × S51 => ks.contains y.2.f0) a0; have := HL.out; omega
  obtain ⟨b9, c6⟩ := b4
  clear b5 hS b3
  have a4 := am (fun b (hb : ks.contains x.2.f0 = b) => X.F3.calls 1001 KA kc ks x.2.f0 b W (Kd.C_below HK.out a1.out) b1.out (a3.trans (by rw [hb])))
  clear a3
  cases hb : ks.contains x.2.f0
  ·
   have a5 := am (a4.out _ hb)
   have e1 : cntI ks (a0 ++ [x]) = cntI ks a0 := by rw [cnt_snoc, hb]; simp
   have HE := am e1
   clear a4 hb e1
   gi_wp2_with (refine ⟨trivial, ?_⟩; gi_at_call 82; refine (CallsIn.inRound l (callsIn_wide.2 a5.out)).mono ?_; rintro e w4 ⟨rfl, ⟨m, rfl⟩⟩)
   exact ⟨(q1b (q0m (Below.refl _ _) m)).from _, q0m (Below.refl _ _) m, ⟨q0r H3.out m, by rw [HE.out]; exact q0r H5.out m⟩, q0m a1.out m, HT.out⟩
  have a5 := am (a4.out _ hb)
  have e1 : cntI ks (a0 ++ [x]) = cntI ks a0 + 1 := by rw [cnt_snoc, hb]; simp
  have HE := am e1
  clear a4 hb e1
  gi_wp2_with (refine ⟨trivial, ?_⟩; gi_at_call 82; refine (CallsIn.inRound l (callsIn_wide.2 a5.out)).mono ?_; rintro e w4 ⟨rfl, ⟨m, rfl⟩⟩)
  refine ⟨KeepsFrom.trans ((q1b (q0m (Below.refl _ _) m)).from _) ((KeepsOthers.setCell _ _ _).from _), ((q0m (Below.refl _ _) m)).setCell (p := ⟨w.heap.size + 1 + 1, 0, none⟩) (by show w.heap.size ≤ w.heap.size + 1 + 1; omega) _, ⟨?_, ?_⟩, q0n (q0m a1.out m) (by omega), by simpa using HT.out⟩
  ·
   exact q0l (q0r H3.out m) (by show w.heap.size + 1 ≠ w.heap.size + 1 + 1; omega) _
  rw [HE.out]
  exact q0o (cs := #[.int .i64 (cntI ks a0)]) (q0r H5.out m) 0 _ rfl
 case done =>
  rintro D ys W hD rfl ⟨⟨h3, h5⟩, hB, _⟩ hK
  have k5 : W.cell? ⟨w.heap.size + 1 + 1, 0, none⟩ = some (.int .i64 (cntI ks (upto xs xs.length))) := bc h5
  have a1 := am hB
  have a6 := am hK
  clear hB h3 h5 hK
  gi_wp2
  refine ⟨by simp, .inl ⟨_, _, rfl, run_takeDeferred a6.out, ?_⟩⟩
  exact ⟨_, results_tmp rfl _ _ _, rfl, a1.out.trans (belowK_b (w := w) (Nat.le_refl _) W D _ _ (by have := HS.out; omega) a6.out rfl rfl)⟩
 case stop =>
  rintro D c a0 W hD _ h _
  exact h.elim
end Go.Proofs.Ytabmkighhmchmaa
namespace Go.Proofs.Ytabmkighhmchmaa
open Go.RowKit Go.YW.PrintWords Go.YW.PrintLast Go.YW.PrintMore Go.YW.Sq
open X (S49 k49 q0e q1q z49)
set_option linter.unusedVariables false
def openF (D : List Bool) (x : Int) : Option Bool := if 0 ≤ x ∧ x < (D.length : Int) then some (!(rdOf false D x)) else none
def anyO (p : Int → Option Bool) : List Int → Option Bool
 | [] => some false
 | x :: xs => (p x).bind fun b => if b = true then some true else anyO p xs
def anyF (p : Int → Option Bool) (l : List Int) : Option Bool := if l.length ≤ 1000000 then anyO p l else none
set_option maxHeartbeats 1000000 in
theorem open_test (g : Nat) (A1 : Option Addr) (c1 : Nat) (D : List Bool) (x : Int) (b : Bool) (h : openF D x = some b) (w : World) (hr : Kd.C Kd.bool w A1 D.length D) (hg : w.heap[g]? = some (.cells #[.slice A1 D.length c1] 56 (0, 0))) :
  Calls Try.prog 91 #[.int .i64 x, .pointer (some ⟨g, 0, none⟩)] w fun e w' => e = .returned (.bool b) ∧ Below w.heap.size w w' := by
 unfold openF at h
 by_cases hx : 0 ≤ x ∧ x < (D.length : Int)
 case neg => rw [if_neg hx] at h; cases h
 rw [if_pos hx] at h
 obtain rfl := Option.some.inj h
 obtain ⟨ad, rfl, hc⟩ := Kd.at_bool hr x hx.1 hx.2
 have c3 : w.cell? ⟨g, 0, none⟩ = some (.slice (some ad) D.length c1) := bc hg
 obtain ⟨p1, p2⟩ := hx
 have HB := am (Below.refl w.heap.size w)
 clear h hg hr
 generalize rdOf false D x = y at hc ⊢
 generalize D.length = n at c3 p2
 go_enter Try.func91, Try.ntmps91
 go_wp2
 go_ret
 exact ⟨rfl, (by repeat (first | (with_reducible first | exact HB.out | apply q0d | apply q0m | apply q0a) | exact HB.out))⟩
set_option maxHeartbeats 1000000 in
theorem has_idx (g : Nat) (p : Int → Option Bool) (A0 : Option Addr) (c0 : Nat) (l0 : List Int) (r : Bool) (w : World) (a2 : Kd.C (Kd.int .i64) w A0 l0.length l0) (hl : l0.length ≤ 1000000) (h : anyO p l0 = some r)
  (KC : ∀ x b, p x = some b → ∀ W, Below w.heap.size w W → Calls Try.prog 91 #[.int .i64 x, .pointer (some ⟨g, 0, none⟩)] W fun e w' => e = .returned (.bool b) ∧ Below W.heap.size W w') :
  Calls Try.prog 89 #[.slice A0 l0.length c0, .func (.func 91) #[] #[.pointer (some ⟨g, 0, none⟩)]] w fun e w' => (∃ i : Int, e = .returned (.int .i64 i) ∧ decide (i ≥ 0) = r) ∧ Below w.heap.size w w' := by
 have HC := am KC
 have HR := am a2
 have HL := am hl
 have HH := am h
 clear hl h KC
 obtain ⟨n, hn⟩ : ∃ n : Nat, l0.length = n := ⟨_, rfl⟩
 rw [hn] at a2 HR HL ⊢
 have HN := am hn
 clear hn
 go_enter Try.func89, Try.ntmps89
 go_wp2
 go_loopw [8] (fun i wr => ∃ k : Nat, k ≤ n ∧ i = .int .i64 k ∧ q0f (anyO p (l0.drop k) = some r) ∧ q0f (Below w.heap.size w wr)) (fun i _ => n - (intOf i).toNat)
 case atStart => exact ⟨0, Nat.zero_le _, rfl, HH, ⟨Below.refl _ _⟩⟩
 case round =>
  clear a2
  obtain ⟨k, hk, rfl, HA, HB⟩ := hrel
  by_cases a4 : k < n
  ·
   have hn := HN.out
   have a3 := HL.out
   obtain ⟨ad, rfl, a0⟩ := Kd.at_int (Kd.C_below HR.out HB.out) (k : Int) (by omega) (by omega)
   rw [Int.toNat_natCast] at a0
   have ha := HA.out
   rw [List.drop_eq_getElem_cons (by omega), anyO] at ha
   have hx : rd l0 (k : Int) = l0[k]'(by omega) := by simp [rd, List.getD_eq_getElem?_getD, List.getElem?_eq_getElem (show k < l0.length by omega)]
   rw [hx] at a0
   obtain ⟨b, hb, ha⟩ := Option.bind_eq_some_iff.1 ha
   generalize l0[k]'(by omega) = x at a0 hb
   have KP := am (HC.out x b hb)
   clear hb hx HA
   cases b
   ·
    rw [if_neg (by simp)] at ha
    have HA := am ha
    clear ha
    go_wp2_with (go_at_call 91; refine (KP.out _ (by repeat (first | (with_reducible first | exact HB.out | apply q0d | apply q0m | apply q0a) | exact HB.out))).mono ?_; rintro e w1 ⟨rfl, hb⟩; have a1 := am (q0j (by repeat (first | (with_reducible first | exact HB.out | apply q0d | apply q0m | apply q0a) | exact HB.out)) hb); clear hb)
    go_roundw
    case rel => exact ⟨k + 1, by omega, by go_num, HA, a1⟩
    case measure => simp [intOf]; omega
   rw [if_pos rfl] at ha
   obtain rfl := Option.some.inj ha
   clear ha
   go_wp2_with (go_at_call 91; refine (KP.out _ (by repeat (first | (with_reducible first | exact HB.out | apply q0d | apply q0m | apply q0a) | exact HB.out))).mono ?_; rintro e w1 ⟨rfl, hb⟩; have a1 := am (q0j (by repeat (first | (with_reducible first | exact HB.out | apply q0d | apply q0m | apply q0a) | exact HB.out)) hb); clear hb)
   go_ret
   exact ⟨⟨_, rfl, by simp⟩, a1.out⟩
  obtain rfl : k = n := by omega
  have ha := HA.out
  rw [List.drop_eq_nil_of_le (by rw [HN.out]; omega), anyO] at ha
  obtain rfl := Option.some.inj ha
  clear ha HA
  go_wp2
  go_ret
  exact ⟨⟨_, rfl, by simp⟩, HB.out⟩
theorem has_calls (g : Nat) (p : Int → Option Bool) (A0 : Option Addr) (c0 : Nat) (l0 : List Int) (r : Bool) (w : World) (a0 : Kd.C (Kd.int .i64) w A0 l0.length l0) (h : anyF p l0 = some r)
  (KC : ∀ x b, p x = some b → ∀ W, Below w.heap.size w W → Calls Try.prog 91 #[.int .i64 x, .pointer (some ⟨g, 0, none⟩)] W fun e w' => e = .returned (.bool b) ∧ Below W.heap.size W w') :
  Calls Try.prog 80 #[.slice A0 l0.length c0, .func (.func 91) #[] #[.pointer (some ⟨g, 0, none⟩)]] w fun e w' => e = .returned (.bool r) ∧ Below w.heap.size w w' := by
 unfold anyF at h
 by_cases hl : l0.length ≤ 1000000
 case neg => rw [if_neg hl] at h; cases h
 rw [if_pos hl] at h
 have K := am (has_idx g p A0 c0 l0 r w a0 hl h KC)
 clear h a0 KC
 go_enter Try.func80, Try.ntmps80
 go_wp2_with (go_at_call 89; refine K.out.mono ?_; rintro e w1 ⟨⟨i, rfl, hi⟩, hb⟩; have HI := am hi; have a1 := am hb; clear hb hi)
 go_ret
 exact ⟨by rw [← HI.out]; rfl, a1.out⟩
def freeL (D : List Bool) : List S49 → Nat → Option (List Int)
 | [], _ => some []
 | t :: ts, i => (openF D (i : Int)).bind fun o => if o = true then (anyF (openF D) t.f0).bind fun b => if b = true then freeL D ts (i + 1) else (freeL D ts (i + 1)).map fun r => (i : Int) :: r else freeL D ts (i + 1)
def Ge.f (k : Nat) (l0 : List S49) (l1 : List Bool) : Option (List Int) := if l0.length ≤ 1000000 then freeL l1 l0 0 else none
theorem inf3 : (Try.prog.info? 3).map (fun i => (i.zero, i.size, i.bytes)) = some (some (.int .i64 0), 1, 8) := by kernel_rfl
set_option maxHeartbeats 4000000 in
set_option maxRecDepth 100000 in
theorem Ge.calls (k : Nat) (A0 : Option Addr) (c0 : Nat) (l0 : List S49) (A1 : Option Addr) (c1 : Nat) (D : List Bool) (r : List Int) (w : World) (b6 : Kd.C k49 w A0 l0.length l0) (d6 : l0.length ≤ c0) (b7 : Kd.C Kd.bool w A1 D.length D) (d7 : D.length ≤ c1) (h : Ge.f k l0 D = some r) :
  Calls Try.prog 88 #[.slice A0 l0.length c0, .slice A1 D.length c1] w fun e w' => ∃ b8 : Value, e = .returned (b8) ∧ Kd.R (Kd.int .i64) 3 w' w.heap.size (fun _ => True) b8 r ∧ Below w.heap.size w w' := by
 have d9 := Try.underlying49
 unfold Ge.f at h
 by_cases hl : l0.length ≤ 1000000
 case neg => rw [if_neg hl] at h; cases h
 rw [if_pos hl] at h
 have HH := am h
 have b0 := am b6
 have a1 := am b7
 have HL := am hl
 have HB := am (Below.refl w.heap.size w)
 clear h b6 b7 hl d6 d7
 go_enter Try.func88, Try.ntmps88
 go_wp2_with ((with_reducible refine q3b (N := 3) rfl ?_); refine q2p ?hg (N := 3) ?hd (cs := #[.slice A1 D.length c1]) (t := 56) ?hr ?_; (case hd => rfl); (case hg => rfl); (case hr => first | (go_simp; done) | (go_simp; rfl)); intro g3 hg w1 a0 hb; have G3 := am (show w.heap.size ≤ g3 by rw [hg]; exact q0p (by repeat (first | (with_reducible first | exact HB.out | apply q0d | apply q0m | apply q0a) | exact HB.out))); have NB := am (q0j (by repeat (first | (with_reducible first | exact HB.out | apply q0d | apply q0m | apply q0a) | exact HB.out)) hb); clear HB; have HB := NB; have B3 := am a0; clear NB hb a0 hg)
 go_loopw [6, 12] (fun v6 e4 wr => ∃ (q : Nat) (out r1 : List Int) (u : Value), u = v6 ∧ e4 = .int .i64 q ∧ q0f (q ≤ l0.length ∧ out.length ≤ q) ∧ q0f (freeL D (l0.drop q) q = some r1) ∧ q0f (out ++ r1 = r) ∧ q0f (Kd.R (Kd.int .i64) 3 wr w.heap.size (fun _ => True) u out) ∧ q0f (wr.heap[g3]? = some (.cells #[.slice A1 D.length c1] 56 (0, 0))) ∧ q0f (Below w.heap.size w wr)) (fun _ i _ => l0.length - (intOf i).toNat)
 case atStart => exact ⟨0, [], r, .slice none 0 0, rfl, rfl, ⟨by simp⟩, HH, ⟨rfl⟩, ⟨Kd.R_nil _ _ _ _ _⟩, B3, HB⟩
 case round =>
  clear HH HB B3
  obtain ⟨q, out, r1, u, rfl, rfl, LQ, HS, HE, HO, B3, HB⟩ := hrel
  by_cases b4 : q < l0.length
  ·
   have hs := HS.out
   rw [List.drop_eq_getElem_cons b4, freeL] at hs
   obtain ⟨ad, A8, c8, rfl, a3, a6, a7, a8, b3, a5⟩ := q1q (Kd.C_below b0.out HB.out) (q : Int) (by omega) (by omega)
   have et : q0e l0 (q : Int) = l0[q] := by simp [q0e, List.getD_eq_getElem?_getD, List.getElem?_eq_getElem b4]
   rw [et] at a3 a6 a7 a8 b3 a5
   have a4 := am a5
   have WR := am HB.out
   have b1 : q0f (Kd.C (Kd.int .i64) w A8 l0[q].f0.length l0[q].f0) := by
    obtain ⟨e6, e5, e7, e', a9, _, _, _, _, b5⟩ := q1q b0.out (q : Int) (by omega) (by omega)
    rw [et] at a9 b5
    cases e'
    have e0 := (HB.out.cell (World.block_lt_of_cell? w _ a9)).trans a9
    rw [a3] at e0
    injection e0 with e0
    injection e0 with e1 e2 e3
    subst e1
    exact ⟨b5⟩
   have LM : q0f (out.length ≤ 1000000) := ⟨by have := LQ.out; have := HL.out; omega⟩
   have EW : wrap64 ((q : Int) + 1) = ((q + 1 : Nat) : Int) := by have := HL.out; unfold wrap64; omega
   clear a5 b3 a4 WR et
   generalize l0[q] = t at *
   rw [Int.toNat_natCast] at a3 a6 a7 a8
   obtain ⟨o, ho, hs⟩ := Option.bind_eq_some_iff.1 hs
   have TO := am ho
   clear ho HS
   go_upto_region 6 with ((with_reducible refine q3b (N := 8) rfl ?_); refine q2p ?hg (N := 8) ?hd (cs := #[.slice none 0 0, .int .i64 0, .int .i64 0, .int .i64 0]) (t := 49) ?hr ?_; (case hd => rfl); (case hg => rfl); (case hr => first | (go_simp; done) | (go_simp; rfl)); intro g8 hg w2 a0 hb; have G8 := am (show w.heap.size ≤ g8 by rw [hg]; exact q0p (by repeat (first | (with_reducible first | exact HB.out | apply q0d | apply q0m | apply q0a) | exact HB.out))); have X3 := am (q0b (o := .cells #[.slice A1 D.length c1] 56 (0, 0)) (by (with_reducible repeat (first | refine q0r ?_ _ | refine q0g ?_ | refine q0h ?_ _)); exact B3.out) hb); have a2 := am (show g3 ≠ g8 by rw [hg]; exact Nat.ne_of_lt (q2h (o := .cells #[.slice A1 D.length c1] 56 (0, 0)) (by (with_reducible repeat (first | refine q0r ?_ _ | refine q0g ?_ | refine q0h ?_ _)); exact B3.out))); have XO := am (Kd.R_below (by (with_reducible repeat (first | apply Kd.R_alloc | apply Kd.R_drewN | apply Kd.R_drew)); exact HO.out) hb); have NB := am (q0j (by repeat (first | (with_reducible first | exact HB.out | apply q0d | apply q0m | apply q0a) | exact HB.out)) hb); clear HB B3 HO; have HB := NB; have B3 := X3; have HO := XO; have B8 := am a0; clear NB X3 XO hb a0 hg; have c6 : w2.cell? ⟨g8, 0, none⟩ = some (.slice none 0 0) := bc B8.out; have c7 : w2.cell? ⟨g8, 1, none⟩ = some (.int .i64 0) := bc B8.out; have c9 : w2.cell? ⟨g8, 2, none⟩ = some (.int .i64 0) := bc B8.out; have d0 : w2.cell? ⟨g8, 3, none⟩ = some (.int .i64 0) := bc B8.out; have d1 := q0k B8.out 0; have d2 := q0k B8.out 1; have d3 := q0k B8.out 2; have d4 := q0k B8.out 3)
   have X8 := am (show ((((w2.setCell ⟨g8, 0, none⟩ (.slice A8 t.f0.length c8)).setCell ⟨g8, 1, none⟩ (.int .i64 t.f1)).setCell ⟨g8, 2, none⟩ (.int .i64 t.f2)).setCell ⟨g8, 3, none⟩ (.int .i64 t.f3)).heap[g8]? = some (.cells #[.slice A8 t.f0.length c8, .int .i64 t.f1, .int .i64 t.f2, .int .i64 t.f3] 49 (0, 0)) from q0o (cs := #[.slice A8 t.f0.length c8, .int .i64 t.f1, .int .i64 t.f2, .int .i64 0]) (q0o (cs := #[.slice A8 t.f0.length c8, .int .i64 t.f1, .int .i64 0, .int .i64 0]) (q0o (cs := #[.slice A8 t.f0.length c8, .int .i64 0, .int .i64 0, .int .i64 0]) (q0o (cs := #[.slice none 0 0, .int .i64 0, .int .i64 0, .int .i64 0]) B8.out 0 _ rfl) 1 _ rfl) 2 _ rfl) 3 _ rfl)
   have X3 := am (show ((((w2.setCell ⟨g8, 0, none⟩ (.slice A8 t.f0.length c8)).setCell ⟨g8, 1, none⟩ (.int .i64 t.f1)).setCell ⟨g8, 2, none⟩ (.int .i64 t.f2)).setCell ⟨g8, 3, none⟩ (.int .i64 t.f3)).heap[g3]? = some (.cells #[.slice A1 D.length c1] 56 (0, 0)) from q0l (q0l (q0l (q0l B3.out a2.out _) a2.out _) a2.out _) a2.out _)
   have XB := am (show Below w.heap.size w ((((w2.setCell ⟨g8, 0, none⟩ (.slice A8 t.f0.length c8)).setCell ⟨g8, 1, none⟩ (.int .i64 t.f1)).setCell ⟨g8, 2, none⟩ (.int .i64 t.f2)).setCell ⟨g8, 3, none⟩ (.int .i64 t.f3)) from q0n (q0n (q0n (q0n HB.out G8.out) G8.out) G8.out) G8.out)
   have XO := am (show Kd.R (Kd.int .i64) 3 ((((w2.setCell ⟨g8, 0, none⟩ (.slice A8 t.f0.length c8)).setCell ⟨g8, 1, none⟩ (.int .i64 t.f1)).setCell ⟨g8, 2, none⟩ (.int .i64 t.f2)).setCell ⟨g8, 3, none⟩ (.int .i64 t.f3)) w.heap.size (fun _ => True) u out from Kd.R_mono (Kd.R_keep (Kd.R_types HO.out B8.out (by decide)) (q2d.set_ (q2d.set_ (q2d.set_ (q2d.set_ (q2d.refl _ _ _) 0 _) 1 _) 2 _) 3 _) (fun _ h => h.2)) (fun _ h => h.1))
   clear HB B3 B8 HO c6 c7 c9 d0 d1 d2 d3 d4 a3 a6 a7 a8
   have HB := XB
   have B3 := X3
   have B8 := X8
   have HO := XO
   clear XB X3 X8 XO
   generalize (((w2.setCell ⟨g8, 0, none⟩ (.slice A8 t.f0.length c8)).setCell ⟨g8, 1, none⟩ (.int .i64 t.f1)).setCell ⟨g8, 2, none⟩ (.int .i64 t.f2)).setCell ⟨g8, 3, none⟩ (.int .i64 t.f3) = w3 at *
   have d8 : w3.cell? ⟨g8, 0, none⟩ = some (.slice A8 t.f0.length c8) := bc B8.out
   cases o
   ·
    rw [if_neg (by simp)] at hs
    have HS := am hs
    clear hs
    go_wp2_with (go_at_call 91; refine (open_test g3 A1 c1 D (q : Int) _ TO.out _ (by repeat (first | exact (Kd.C_below a1.out HB.out) | (with_reducible refine Kd.C_alloc ?_ _) | (with_reducible refine Kd.C_drewN ?_ _) | (with_reducible refine Kd.C_drew ?_))) (by (with_reducible repeat (first | refine q0r ?_ _ | refine q0g ?_ | refine q0h ?_ _)); exact B3.out)).mono ?_; rintro e w4 ⟨rfl, hb⟩; have X3 := am (q0b (o := .cells #[.slice A1 D.length c1] 56 (0, 0)) (by (with_reducible repeat (first | refine q0r ?_ _ | refine q0g ?_ | refine q0h ?_ _)); exact B3.out) hb); have X8 := am (q0b (o := .cells #[.slice A8 t.f0.length c8, .int .i64 t.f1, .int .i64 t.f2, .int .i64 t.f3] 49 (0, 0)) (by (with_reducible repeat (first | refine q0r ?_ _ | refine q0g ?_ | refine q0h ?_ _)); exact B8.out) hb); have XO := am (Kd.R_below (by (with_reducible repeat (first | apply Kd.R_alloc | apply Kd.R_drewN | apply Kd.R_drew)); exact HO.out) hb); have XB := am (q0j (by repeat (first | (with_reducible first | exact HB.out | apply q0d | apply q0m | apply q0a) | exact HB.out)) hb); clear hb B3 B8 HO HB; have B3 := X3; have B8 := X8; have HO := XO; have HB := XB; clear X3 X8 XO XB; have d8 : w4.cell? ⟨g8, 0, none⟩ = some (.slice A8 t.f0.length c8) := bc B8.out)
    go_roundw
    case rel => exact ⟨q + 1, out, r1, u, rfl, by rw [EW], ⟨by have := LQ.out; omega⟩, HS, HE, HO, B3, HB⟩
    case measure => rw [EW]; simp only [intOf]; omega
   rw [if_pos rfl] at hs
   obtain ⟨b, b2, hs⟩ := Option.bind_eq_some_iff.1 hs
   have TA := am b2
   clear b2
   cases b
   ·
    rw [if_neg (by simp)] at hs
    obtain ⟨r2, h2, he⟩ := Option.map_eq_some_iff.1 hs
    subst he
    have HS := am h2
    have b9 := am (show (out ++ [(q : Int)]) ++ r2 = r by rw [← HE.out]; simp)
    clear hs h2
    go_wp2_with (first | (go_at_call 91; refine (open_test g3 A1 c1 D (q : Int) _ TO.out _ (by repeat (first | exact (Kd.C_below a1.out HB.out) | (with_reducible refine Kd.C_alloc ?_ _) | (with_reducible refine Kd.C_drewN ?_ _) | (with_reducible refine Kd.C_drew ?_))) (by (with_reducible repeat (first | refine q0r ?_ _ | refine q0g ?_ | refine q0h ?_ _)); exact B3.out)).mono ?_; rintro e w4 ⟨rfl, hb⟩; have X3 := am (q0b (o := .cells #[.slice A1 D.length c1] 56 (0, 0)) (by (with_reducible repeat (first | refine q0r ?_ _ | refine q0g ?_ | refine q0h ?_ _)); exact B3.out) hb); have X8 := am (q0b (o := .cells #[.slice A8 t.f0.length c8, .int .i64 t.f1, .int .i64 t.f2, .int .i64 t.f3] 49 (0, 0)) (by (with_reducible repeat (first | refine q0r ?_ _ | refine q0g ?_ | refine q0h ?_ _)); exact B8.out) hb); have XO := am (Kd.R_below (by (with_reducible repeat (first | apply Kd.R_alloc | apply Kd.R_drewN | apply Kd.R_drew)); exact HO.out) hb); have XB := am (q0j (by repeat (first | (with_reducible first | exact HB.out | apply q0d | apply q0m | apply q0a) | exact HB.out)) hb); clear hb B3 B8 HO HB; have B3 := X3; have B8 := X8; have HO := XO; have HB := XB; clear X3 X8 XO XB; have d8 : w4.cell? ⟨g8, 0, none⟩ = some (.slice A8 t.f0.length c8) := bc B8.out) | (go_at_call 80; refine (has_calls g3 (openF D) A8 c8 t.f0 _ _ (by repeat (first | exact (Kd.C_below b1.out HB.out) | (with_reducible refine Kd.C_alloc ?_ _) | (with_reducible refine Kd.C_drewN ?_ _) | (with_reducible refine Kd.C_drew ?_))) TA.out (fun x b hx W hW => open_test g3 A1 c1 D x b hx W (Kd.C_below (by repeat (first | exact (Kd.C_below a1.out HB.out) | (with_reducible refine Kd.C_alloc ?_ _) | (with_reducible refine Kd.C_drewN ?_ _) | (with_reducible refine Kd.C_drew ?_))) hW) (q0b (o := .cells #[.slice A1 D.length c1] 56 (0, 0)) (by (with_reducible repeat (first | refine q0r ?_ _ | refine q0g ?_ | refine q0h ?_ _)); exact B3.out) hW))).mono ?_; rintro e w5 ⟨rfl, hb⟩; have X3 := am (q0b (o := .cells #[.slice A1 D.length c1] 56 (0, 0)) (by (with_reducible repeat (first | refine q0r ?_ _ | refine q0g ?_ | refine q0h ?_ _)); exact B3.out) hb); have X8 := am (q0b (o := .cells #[.slice A8 t.f0.length c8, .int .i64 t.f1, .int .i64 t.f2, .int .i64 t.f3] 49 (0, 0)) (by (with_reducible repeat (first | refine q0r ?_ _ | refine q0g ?_ | refine q0h ?_ _)); exact B8.out) hb); have XO := am (Kd.R_below (by (with_reducible repeat (first | apply Kd.R_alloc | apply Kd.R_drewN | apply Kd.R_drew)); exact HO.out) hb); have XB := am (q0j (by repeat (first | (with_reducible first | exact HB.out | apply q0d | apply q0m | apply q0a) | exact HB.out)) hb); clear hb B3 B8 HO HB; have B3 := X3; have B8 := X8; have HO := XO; have HB := XB; clear X3 X8 XO XB; have d8 : w5.cell? ⟨g8, 0, none⟩ = some (.slice A8 t.f0.length c8) := bc B8.out) | ((with_reducible refine q3o (b := .append) (xs := #[.tmp 27, .tmp 29]) rfl ?_); at_builtin; refine Kd.R_append (Kd.int .i64) (w0 := w) w.heap.size rfl (.tmp 27) (.tmp 29) 47 3 (.int .i64 0) 8 rfl Try.underlying47 inf3 rfl (by decide) (by omega) u out (q : Int) [.int .i64 (q : Int)] (fun _ => True) (fun _ => False) rfl rfl ?aP (fun _ hk => hk.elim) ?aF ?aO ?aB ?aS ?aL ?_; (case aP => exact rfl); (case aB => exact (by repeat (first | (with_reducible first | exact HB.out | apply q0d | apply q0m | apply q0a) | exact HB.out))); (case aF => exact (fun _ _ => trivial)); (case aO => exact (by (with_reducible repeat (first | apply Kd.R_alloc | apply Kd.R_drewN | apply Kd.R_drew)); exact HO.out)); (case aS => exact (q0p (by repeat (first | (with_reducible first | exact HB.out | apply q0d | apply q0m | apply q0a) | exact HB.out)))); (case aL => have := LM.out; omega); intro v6 w6 ho hb hg d5; have X3 := am (q2y (g := g3) (o := .cells #[.slice A1 D.length c1] 56 (0, 0)) (by (with_reducible repeat (first | refine q0r ?_ _ | refine q0g ?_ | refine q0h ?_ _)); exact B3.out) hg (Kd.R_ne HO.out B3.out (by decide))); have XO := am ho; have XB := am hb; clear ho hb hg d5 B3 HO HB B8; have B3 := X3; have HO := XO; have HB := XB; clear X3 XO XB))
    go_roundw
    case rel => exact ⟨q + 1, out ++ [(q : Int)], r2, _, rfl, by rw [EW], ⟨by have := LQ.out; simp; omega⟩, HS, b9, HO, B3, HB⟩
    case measure => rw [EW]; simp only [intOf]; omega
   rw [if_pos rfl] at hs
   have HS := am hs
   clear hs
   go_wp2_with (first | (go_at_call 91; refine (open_test g3 A1 c1 D (q : Int) _ TO.out _ (by repeat (first | exact (Kd.C_below a1.out HB.out) | (with_reducible refine Kd.C_alloc ?_ _) | (with_reducible refine Kd.C_drewN ?_ _) | (with_reducible refine Kd.C_drew ?_))) (by (with_reducible repeat (first | refine q0r ?_ _ | refine q0g ?_ | refine q0h ?_ _)); exact B3.out)).mono ?_; rintro e w4 ⟨rfl, hb⟩; have X3 := am (q0b (o := .cells #[.slice A1 D.length c1] 56 (0, 0)) (by (with_reducible repeat (first | refine q0r ?_ _ | refine q0g ?_ | refine q0h ?_ _)); exact B3.out) hb); have X8 := am (q0b (o := .cells #[.slice A8 t.f0.length c8, .int .i64 t.f1, .int .i64 t.f2, .int .i64 t.f3] 49 (0, 0)) (by (with_reducible repeat (first | refine q0r ?_ _ | refine q0g ?_ | refine q0h ?_ _)); exact B8.out) hb); have XO := am (Kd.R_below (by (with_reducible repeat (first | apply Kd.R_alloc | apply Kd.R_drewN | apply Kd.R_drew)); exact HO.out) hb); have XB := am (q0j (by repeat (first | (with_reducible first | exact HB.out | apply q0d | apply q0m | apply q0a) | exact HB.out)) hb); clear hb B3 B8 HO HB; have B3 := X3; have B8 := X8; have HO := XO; have HB := XB; clear X3 X8 XO XB; have d8 : w4.cell? ⟨g8, 0, none⟩ = some (.slice A8 t.f0.length c8) := bc B8.out) | (go_at_call 80; refine (has_calls g3 (openF D) A8 c8 t.f0 _ _ (by repeat (first | exact (Kd.C_below b1.out HB.out) | (with_reducible refine Kd.C_alloc ?_ _) | (with_reducible refine Kd.C_drewN ?_ _) | (with_reducible refine Kd.C_drew ?_))) TA.out (fun x b hx W hW => open_test g3 A1 c1 D x b hx W (Kd.C_below (by repeat (first | exact (Kd.C_below a1.out HB.out) | (with_reducible refine Kd.C_alloc ?_ _) | (with_reducible refine Kd.C_drewN ?_ _) | (with_reducible refine Kd.C_drew ?_))) hW) (q0b (o := .cells #[.slice A1 D.length c1] 56 (0, 0)) (by (with_reducible repeat (first | refine q0r ?_ _ | refine q0g ?_ | refine q0h ?_ _)); exact B3.out) hW))).mono ?_; rintro e w5 ⟨rfl, hb⟩; have X3 := am (q0b (o := .cells #[.slice A1 D.length c1] 56 (0, 0)) (by (with_reducible repeat (first | refine q0r ?_ _ | refine q0g ?_ | refine q0h ?_ _)); exact B3.out) hb); have X8 := am (q0b (o := .cells #[.slice A8 t.f0.length c8, .int .i64 t.f1, .int .i64 t.f2, .int .i64 t.f3] 49 (0, 0)) (by (with_reducible repeat (first | refine q0r ?_ _ | refine q0g ?_ | refine q0h ?_ _)); exact B8.out) hb); have XO := am (Kd.R_below (by (with_reducible repeat (first | apply Kd.R_alloc | apply Kd.R_drewN | apply Kd.R_drew)); exact HO.out) hb); have XB := am (q0j (by repeat (first | (with_reducible first | exact HB.out | apply q0d | apply q0m | apply q0a) | exact HB.out)) hb); clear hb B3 B8 HO HB; have B3 := X3; have B8 := X8; have HO := XO; have HB := XB; clear X3 X8 XO XB; have d8 : w5.cell? ⟨g8, 0, none⟩ = some (.slice A8 t.f0.length c8) := bc B8.out))
   go_roundw
   case rel => exact ⟨q + 1, out, r1, u, rfl, by rw [EW], ⟨by have := LQ.out; omega⟩, HS, HE, HO, B3, HB⟩
   case measure => rw [EW]; simp only [intOf]; omega
  obtain rfl : q = l0.length := by have := LQ.out; omega
  have hs := HS.out
  rw [List.drop_eq_nil_of_le (Nat.le_refl _), freeL] at hs
  obtain rfl := Option.some.inj hs
  have he := HE.out
  rw [List.append_nil] at he
  subst he
  clear hs HS HE
  go_wp2
  go_ret
  exact ⟨_, rfl, HO.out, HB.out⟩
end Go.Proofs.Ytabmkighhmchmaa
namespace Go.Proofs.Ytabmkighhmchmaa
open Go.RowKit Go.YW.PrintWords Go.YW.PrintLast Go.YW.PrintMore Go.YW.Sq
open X (S49 S51 k49 k51 q0e q1q z49 q0c q1u z51)
set_option linter.unusedVariables false
set_option linter.unusedSimpArgs false
set_option maxHeartbeats 1000000 in
theorem hasR_idx (g : Nat) (p : Int → Option Bool) (A0 : Option Addr) (c0 : Nat) (l0 : List Int) (r : Bool) (w : World) (a2 : Kd.C (Kd.int .i64) w A0 l0.length l0) (hl : l0.length ≤ 1000000) (h : anyO p l0 = some r)
  (KC : ∀ x b, p x = some b → ∀ W, Below w.heap.size w W → Calls Try.prog 81 #[.int .i64 x, .pointer (some ⟨g, 0, none⟩)] W fun e w' => e = .returned (.bool b) ∧ Below W.heap.size W w') :
  Calls Try.prog 89 #[.slice A0 l0.length c0, .func (.func 81) #[] #[.pointer (some ⟨g, 0, none⟩)]] w fun e w' => (∃ i : Int, e = .returned (.int .i64 i) ∧ decide (i ≥ 0) = r) ∧ Below w.heap.size w w' := by
 have HC := am KC
 have HR := am a2
 have HL := am hl
 have HH := am h
 clear hl h KC
 obtain ⟨n, hn⟩ : ∃ n : Nat, l0.length = n := ⟨_, rfl⟩
 rw [hn] at a2 HR HL ⊢
 have HN := am hn
 clear hn
 go_enter Try.func89, Try.ntmps89
 go_wp2
 go_loopw [8] (fun i wr => ∃ k : Nat, k ≤ n ∧ i = .int .i64 k ∧ q0f (anyO p (l0.drop k) = some r) ∧ q0f (Below w.heap.size w wr)) (fun i _ => n - (intOf i).toNat)
 case atStart => exact ⟨0, Nat.zero_le _, rfl, HH, ⟨Below.refl _ _⟩⟩
 case round =>
  clear a2
  obtain ⟨k, hk, rfl, HA, HB⟩ := hrel
  by_cases a4 : k < n
  ·
   have hn := HN.out
   have a3 := HL.out
   obtain ⟨ad, rfl, a0⟩ := Kd.at_int (Kd.C_below HR.out HB.out) (k : Int) (by omega) (by omega)
   rw [Int.toNat_natCast] at a0
   have ha := HA.out
   rw [List.drop_eq_getElem_cons (by omega), anyO] at ha
   have hx : rd l0 (k : Int) = l0[k]'(by omega) := by simp [rd, List.getD_eq_getElem?_getD, List.getElem?_eq_getElem (show k < l0.length by omega)]
   rw [hx] at a0
   obtain ⟨b, hb, ha⟩ := Option.bind_eq_some_iff.1 ha
   generalize l0[k]'(by omega) = x at a0 hb
   have KP := am (HC.out x b hb)
   clear hb hx HA
   cases b
   ·
    rw [if_neg (by simp)] at ha
    have HA := am ha
    clear ha
    go_wp2_with (go_at_call 81; refine (KP.out _ (by repeat (first | (with_reducible first | exact HB.out | apply q0d | apply q0m | apply q0a) | exact HB.out))).mono ?_; rintro e w1 ⟨rfl, hb⟩; have a1 := am (q0j (by repeat (first | (with_reducible first | exact HB.out | apply q0d | apply q0m | apply q0a) | exact HB.out)) hb); clear hb)
    go_roundw
    case rel => exact ⟨k + 1, by omega, by go_num, HA, a1⟩
    case measure => simp [intOf]; omega
   rw [if_pos rfl] at ha
   obtain rfl := Option.some.inj ha
   clear ha
   go_wp2_with (go_at_call 81; refine (KP.out _ (by repeat (first | (with_reducible first | exact HB.out | apply q0d | apply q0m | apply q0a) | exact HB.out))).mono ?_; rintro e w1 ⟨rfl, hb⟩; have a1 := am (q0j (by repeat (first | (with_reducible first | exact HB.out | apply q0d | apply q0m | apply q0a) | exact HB.out)) hb); clear hb)
   go_ret
   exact ⟨⟨_, rfl, by simp⟩, a1.out⟩
  obtain rfl : k = n := by omega
  have ha := HA.out
  rw [List.drop_eq_nil_of_le (by rw [HN.out]; omega), anyO] at ha
  obtain rfl := Option.some.inj ha
  clear ha HA
  go_wp2
  go_ret
  exact ⟨⟨_, rfl, by simp⟩, HB.out⟩
theorem hasR_calls (g : Nat) (p : Int → Option Bool) (A0 : Option Addr) (c0 : Nat) (l0 : List Int) (r : Bool) (w : World) (a0 : Kd.C (Kd.int .i64) w A0 l0.length l0) (h : anyF p l0 = some r)
  (KC : ∀ x b, p x = some b → ∀ W, Below w.heap.size w W → Calls Try.prog 81 #[.int .i64 x, .pointer (some ⟨g, 0, none⟩)] W fun e w' => e = .returned (.bool b) ∧ Below W.heap.size W w') :
  Calls Try.prog 80 #[.slice A0 l0.length c0, .func (.func 81) #[] #[.pointer (some ⟨g, 0, none⟩)]] w fun e w' => e = .returned (.bool r) ∧ Below w.heap.size w w' := by
 unfold anyF at h
 by_cases hl : l0.length ≤ 1000000
 case neg => rw [if_neg hl] at h; cases h
 rw [if_pos hl] at h
 have K := am (hasR_idx g p A0 c0 l0 r w a0 hl h KC)
 clear h a0 KC
 go_enter Try.func80, Try.ntmps80
 go_wp2_with (go_at_call 89; refine K.out.mono ?_; rintro e w1 ⟨⟨i, rfl, hi⟩, hb⟩; have HI := am hi; have a1 := am hb; clear hb hi)
 go_ret
 exact ⟨by rw [← HI.out]; rfl, a1.out⟩
def openO (xs : List S51) (x : Int) : Option Bool := if 0 ≤ x ∧ x < (xs.length : Int) then some (!((q0c xs x).f0 == 3)) else none
def readyO (ts : List S49) (xs : List S51) (i : Int) : Option Bool := if 0 ≤ i ∧ i < (ts.length : Int) then (anyF (openO xs) (q0e ts i).f0).bind fun b => some (!b) else none
set_option maxHeartbeats 1000000 in
theorem ready_test (g : Nat) (ky nm : ByteArray) (A1 : Option Addr) (n1 c1 : Nat) (is : Int) (A2 : Option Addr) (c2 : Nat) (xs : List S51) (x : Int) (b : Bool) (h : openO xs x = some b) (w : World) (hr : Kd.C k51 w A2 xs.length xs) (hg : w.heap[g]? = some (.cells (runV ky nm A1 n1 c1 is A2 xs.length c2) 27 (0, 0))) :
  Calls Try.prog 81 #[.int .i64 x, .pointer (some ⟨g, 0, none⟩)] w fun e w' => e = .returned (.bool b) ∧ Below w.heap.size w w' := by
 have a0 := Try.underlying27
 have a1 := Try.underlying51
 unfold openO at h
 by_cases hx : 0 ≤ x ∧ x < (xs.length : Int)
 case neg => rw [if_neg hx] at h; cases h
 rw [if_pos hx] at h
 obtain rfl := Option.some.inj h
 obtain ⟨ad, rfl, h0, _, _, _, _⟩ := q1u hr x hx.1 hx.2
 have c4 : w.cell? ⟨g, 4, none⟩ = some (.slice (some ad) xs.length c2) := bc hg
 obtain ⟨p1, p2⟩ := hx
 clear h hg hr
 generalize (q0c xs x).f0 = y at h0 ⊢
 generalize xs.length = n at c4 p2
 by_cases e : y = 3
 ·
  subst e
  go_enter Try.func81, Try.ntmps81
  go_wp2
  go_ret
  exact ⟨rfl, Below.refl _ _⟩
 have e1 : (y == 3) = false := by simpa using e
 have e2 : (y != 3) = true := by simpa using e
 rw [e1]
 go_enter Try.func81, Try.ntmps81
 go_wp2
 go_ret
 exact ⟨rfl, Below.refl _ _⟩
set_option maxRecDepth 100000 in
set_option maxHeartbeats 2000000 in
theorem ready_calls (ky nm : ByteArray) (A1 : Option Addr) (c1 : Nat) (ts : List S49) (is : Int) (A2 : Option Addr) (c2 : Nat) (xs : List S51) (i : Int) (b : Bool) (w : World) (hT : Kd.C k49 w A1 ts.length ts) (hC : Kd.C k51 w A2 xs.length xs) (h : readyO ts xs i = some b) :
  Calls Try.prog 45 #[.agg (runV ky nm A1 ts.length c1 is A2 xs.length c2), .int .i64 i] w fun e w' => e = .returned (.bool b) ∧ Below w.heap.size w w' := by
 have a5 := Try.underlying27
 have a4 := Try.underlying24
 have a6 := Try.underlying49
 unfold readyO at h
 by_cases hi : 0 ≤ i ∧ i < (ts.length : Int)
 case neg => rw [if_neg hi] at h; cases h
 rw [if_pos hi] at h
 obtain ⟨r, hr, hb⟩ := Option.bind_eq_some_iff.1 h
 obtain rfl := Option.some.inj hb
 obtain ⟨ad, A8, c8, rfl, b1, a7, a8, a9, a0, a1⟩ := q1q (Kd.C_alloc hT (.cells (runV ky nm A1 ts.length c1 is A2 xs.length c2) 27)) i hi.1 hi.2
 have a3 := am a1
 have HC := am hC
 have HR := am hr
 have b0 := am a0
 obtain ⟨p1, p2⟩ := hi
 clear h hT hC a1 hr hb a0 a7 a8 a9
 generalize q0e ts i = t at *
 go_enter Try.func45, Try.ntmps45
 go_wp2_with (go_at_call 80; refine (hasR_calls w.heap.size (openO xs) A8 c8 t.f0 r _ a3.out HR.out (fun x b hx W hW => ready_test w.heap.size ky nm (some ad) ts.length c1 is A2 c2 xs x b hx W (Kd.C_below (Kd.C_alloc HC.out _) hW) (q0b (q1j w _) hW))).mono ?_; rintro e w1 ⟨rfl, hb⟩; have a2 := am (q0j (q0d (Below.refl _ w) _) hb); clear hb)
 go_ret
 exact ⟨rfl, a2.out⟩
end Go.Proofs.Ytabmkighhmchmaa
namespace Go.Proofs.Ytabmkighhmchmaa
open Go.RowKit Go.YW.PrintWords Go.YW.PrintLast Go.YW.PrintMore Go.YW.Sq
open X (S51 k51 q0c q1u z51)
set_option linter.unusedVariables false
set_option linter.unusedSimpArgs false
theorem info51 : (Try.prog.info? 51).map (fun i => (i.zero, i.size, i.bytes)) = some (some (.agg #[.int .i64 0, .int .i64 0, .int .i64 0, .int .i64 0, .string ⟨#[]⟩]), 5, 48) := by kernel_rfl
set_option maxHeartbeats 2000000 in
set_option maxRecDepth 100000 in
theorem q4b (A : Option Addr) (c : Nat) (xs : List S51) (w : World) (hC : Kd.C k51 w A xs.length xs) (hl : xs.length ≤ 1000000) :
  Calls Try.prog 37 #[.slice A xs.length c] w fun e w' => ∃ v : Value, e = .returned v ∧ Kd.R k51 51 w' w.heap.size (fun _ => True) v xs ∧ Below w.heap.size w w' := by
 have HC := am hC
 have HL := am hl
 have HB := am (Below.refl w.heap.size w)
 have hq := fun (w : World) (a : Option Addr) (n c : Nat) => Go.Lib.run_eql_slice_nil (P := Try.prog) w 25 51 a n c 0 0 Try.underlying25
 rcases A with _ | ad
 ·
  obtain rfl : xs = [] := by
   rcases Nat.eq_zero_or_pos xs.length with h0 | h0
   ·
    exact List.eq_nil_of_length_eq_zero h0
   obtain ⟨ad, h, _⟩ := hC.2.2 h0
   cases h
  clear hC hl
  go_enter Try.func37, Try.ntmps37
  go_wp2
  go_ret
  exact ⟨_, rfl, Kd.R_nil _ _ _ _ _, HB.out⟩
 clear hC hl
 go_enter Try.func37, Try.ntmps37
 go_upto_region 3 with fail
 go_wp2_with (first | ((with_reducible refine q3b (N := 5) rfl ?_); refine Kd.R_lit k51 (w0 := w) w.heap.size 51 ?hg (N := 5) ?hd (xs := ([] : List S51)) (inner := []) (ok := fun _ => True) (okp := fun _ => False) ?hr ?hp (fun _ hk => hk.elim) trivial HB.out (q0p HB.out) (by simp) ?_; (case hd => rfl); (case hg => rfl); (case hr => first | (go_simp; done) | (go_simp; rfl)); (case hp => exact (Reps.none _ _)); intro v5 w3 ho hb hg a0; obtain ⟨A5, c5, e5⟩ := Kd.R_slice ho; subst e5; have H5 := am ho; have HG := am hg; have XB := am hb; clear ho hb hg a0 HB; have HB := XB; clear XB) | ((with_reducible refine q3o (b := .append) (xs := #[.tmp 5, .tmp 6]) rfl ?_); at_builtin; refine Kd.R_append_rows k51 (w0 := w) w.heap.size rfl (.tmp 5) (.tmp 6) 25 51 (.agg #[.int .i64 0, .int .i64 0, .int .i64 0, .int .i64 0, .string ⟨#[]⟩]) 48 rfl Try.underlying25 info51 rfl (by decide) (by omega) (.slice A5 0 c5) [] xs (some ad) xs.length c (fun _ => True) (fun _ => False) rfl rfl ?aO (Kd.C_below HC.out HB.out) ?aK (fun _ hk => hk.elim) (fun _ _ => trivial) HB.out (q0p HB.out) ?aL ?_; (case aO => exact H5.out); (case aK => intro x cs hk; rw [X.k51_open hk]; exact X.k51_mkM _ _ _ x); (case aL => have := HL.out; simp; omega); intro v6 w6 ho hb hg a0; rw [List.nil_append] at ho; obtain ⟨A6, c6, e6⟩ := Kd.R_slice ho; subst e6; have H6 := am ho; have XB := am hb; clear ho hb hg a0 HB H5; have HB := XB; clear XB))
 go_ret
 exact ⟨_, rfl, H6.out, HB.out⟩
end Go.Proofs.Ytabmkighhmchmaa
namespace Go.Proofs.Ytabmkighhmchmaa.X
open Go.RowKit Go.YW.PrintWords Go.YW.PrintLast Go.YW.PrintMore Go.YW.Sq
attribute [local go_sem] q0y q0w q1g q1f q0t q0s q0x q0v
set_option linter.unusedVariables false
set_option linter.unusedSimpArgs false
def Gf.f (a0 : Int) (a1 : Int) (a2 : Int) (a3 : Int) (a4 : ByteArray) : Option (Int × Int × Int × Int × ByteArray) := if a0 = 0 then (some (1, a1, a2, a3, a4)) else (some (a0, a1, a2, a3, a4))
set_option maxHeartbeats 8000000 in
set_option maxRecDepth 100000 in
theorem Gf.calls (a3 : Int) (a4 : Int) (a5 : Int) (a6 : Int) (a7 : ByteArray) (r1 : Int) (r2 : Int) (r3 : Int) (r4 : Int) (r5 : ByteArray) (w : World) (h : Gf.f a3 a4 a5 a6 a7 = some (r1, r2, r3, r4, r5)) :
  Calls Try.prog 72 #[.agg #[.int .i64 a3, .int .i64 a4, .int .i64 a5, .int .i64 a6, .string a7]] w fun e w' => e = .returned (.agg #[.int .i64 r1, .int .i64 r2, .int .i64 r3, .int .i64 r4, .string r5]) ∧ Below w.heap.size w w' := by
 have c6 := Try.underlying51
 have HB := am (Below.refl w.heap.size w)
 unfold Gf.f at h
 have H := h
 clear h
 by_cases c2 : a3 = 0
 ·
  rw [if_pos c2] at H
  obtain ⟨b4, b5⟩ := qt c2
  clear c2
  simp only [Option.some.injEq, Prod.mk.injEq] at H
  obtain ⟨rfl, rfl, rfl, rfl, rfl⟩ := H
  go_enter Try.func72, Try.ntmps72
  go_wp2_with (first | ((with_reducible refine gD 1 ?_); refine bz 1 #[.int .i64 a3, .int .i64 a4, .int .i64 a5, .int .i64 a6, .string a7] 51 HB ?_; clear HB; intro b1 hg w3 hb a0 a9 HB; clear hb hg) | ((with_reducible refine gD 2 ?_); refine bz 2 #[.int .i64 0, .int .i64 0, .int .i64 0, .int .i64 0, .string (⟨#[]⟩ : ByteArray)] 51 HB ?_; clear HB; intro a8 hg w4 hb a2 b0 HB; have a1 := nL hg a0; replace a0 := kB a0 hb; clear hb hg; have b9 := nn a1; have b6 := y5 a0; have b7 := y5 a2))
  refine bodyPost_ret (results_cell_row rfl _ _ a8 51 #[.int .i64 1, .int .i64 a4, .int .i64 a5, .int .i64 a6, .string a7] (0, 0) _ rfl (pP a2.out) Try.underlying51 rfl (by kernel_rfl)) rfl ?_
  exact ⟨er, pB HB.out⟩
 rw [if_neg c2] at H
 obtain ⟨b4, b5⟩ := qf c2
 simp only [Option.some.injEq, Prod.mk.injEq] at H
 obtain ⟨rfl, rfl, rfl, rfl, rfl⟩ := H
 go_enter Try.func72, Try.ntmps72
 go_wp2_with (first | ((with_reducible refine gD 1 ?_); refine bz 1 #[.int .i64 a3, .int .i64 a4, .int .i64 a5, .int .i64 a6, .string a7] 51 HB ?_; clear HB; intro b1 hg w8 hb a0 a9 HB; clear hb hg) | ((with_reducible refine gD 2 ?_); refine bz 2 #[.int .i64 0, .int .i64 0, .int .i64 0, .int .i64 0, .string (⟨#[]⟩ : ByteArray)] 51 HB ?_; clear HB; intro a8 hg w9 hb a2 b0 HB; have a1 := nL hg a0; replace a0 := kB a0 hb; clear hb hg; have b8 := nn a1; have b2 := y5 a0; have b3 := y5 a2))
 refine bodyPost_ret (results_cell_row rfl _ _ a8 51 #[.int .i64 a3, .int .i64 a4, .int .i64 a5, .int .i64 a6, .string a7] (0, 0) _ rfl (pP a2.out) Try.underlying51 rfl (by kernel_rfl)) rfl ?_
 exact ⟨er, pB HB.out⟩
def Ga.f (a0 : Int) (a1 : Int) (a3 : Int) (a4 : Int) (a2 : ByteArray) : Option (Int × Int × Int × Int × ByteArray) := if a0 = 0 then (some (5, a1, 0, 0, a2)) else (if a0 = 1 then (some (5, a1, 0, 0, a2)) else (if a0 = 2 then (some (5, a1, 0, 0, a2)) else (some (a0, a1, a3, a4, a2))))
set_option maxHeartbeats 8000000 in
set_option maxRecDepth 100000 in
theorem Ga.calls (a4 : Int) (a5 : Int) (a7 : Int) (a8 : Int) (a6 : ByteArray) (r1 : Int) (r2 : Int) (r3 : Int) (r4 : Int) (r5 : ByteArray) (w : World) (h : Ga.f a4 a5 a7 a8 a6 = some (r1, r2, r3, r4, r5)) :
  Calls Try.prog 64 #[.agg #[.int .i64 a4, .int .i64 a5, .int .i64 a7, .int .i64 a8, .string a6]] w fun e w' => e = .returned (.agg #[.int .i64 r1, .int .i64 r2, .int .i64 r3, .int .i64 r4, .string r5]) ∧ Below w.heap.size w w' := by
 have d8 := Try.underlying51
 have HB := am (Below.refl w.heap.size w)
 unfold Ga.f at h
 have H := h
 clear h
 by_cases c2 : a4 = 0
 ·
  rw [if_pos c2] at H
  obtain ⟨c7, c9⟩ := qt c2
  clear c2
  simp only [Option.some.injEq, Prod.mk.injEq] at H
  obtain ⟨rfl, rfl, rfl, rfl, rfl⟩ := H
  go_enter Try.func64, Try.ntmps64
  go_wp2_with (first | ((with_reducible refine gD 1 ?_); refine bz 1 #[.int .i64 a4, .int .i64 a5, .int .i64 a7, .int .i64 a8, .string a6] 51 HB ?_; clear HB; intro b1 hg w3 hb a0 a9 HB; clear hb hg) | ((with_reducible refine gD 2 ?_); refine bz 2 #[.int .i64 0, .int .i64 0, .int .i64 0, .int .i64 0, .string (⟨#[]⟩ : ByteArray)] 51 HB ?_; clear HB; intro a3 hg w4 hb a2 b0 HB; have a1 := nL hg a0; replace a0 := kB a0 hb; clear hb hg; have d7 := nn a1; have d2 := y5 a0; have d3 := y5 a2))
  refine bodyPost_ret (results_cell_row rfl _ _ a3 51 #[.int .i64 5, .int .i64 a5, .int .i64 0, .int .i64 0, .string a6] (0, 0) _ rfl (pP a2.out) Try.underlying51 rfl (by kernel_rfl)) rfl ?_
  exact ⟨er, pB HB.out⟩
 rw [if_neg c2] at H
 obtain ⟨c7, c9⟩ := qf c2
 by_cases c8 : a4 = 1
 ·
  rw [if_pos c8] at H
  obtain ⟨d0, d1⟩ := qt c8
  clear c8
  simp only [Option.some.injEq, Prod.mk.injEq] at H
  obtain ⟨rfl, rfl, rfl, rfl, rfl⟩ := H
  go_enter Try.func64, Try.ntmps64
  go_wp2_with (first | ((with_reducible refine gD 1 ?_); refine bz 1 #[.int .i64 a4, .int .i64 a5, .int .i64 a7, .int .i64 a8, .string a6] 51 HB ?_; clear HB; intro b1 hg w9 hb a0 a9 HB; clear hb hg) | ((with_reducible refine gD 2 ?_); refine bz 2 #[.int .i64 0, .int .i64 0, .int .i64 0, .int .i64 0, .string (⟨#[]⟩ : ByteArray)] 51 HB ?_; clear HB; intro a3 hg d9 hb a2 b0 HB; have a1 := nL hg a0; replace a0 := kB a0 hb; clear hb hg; have d4 := nn a1; have b5 := y5 a0; have b6 := y5 a2))
  refine bodyPost_ret (results_cell_row rfl _ _ a3 51 #[.int .i64 5, .int .i64 a5, .int .i64 0, .int .i64 0, .string a6] (0, 0) _ rfl (pP a2.out) Try.underlying51 rfl (by kernel_rfl)) rfl ?_
  exact ⟨er, pB HB.out⟩
 rw [if_neg c8] at H
 obtain ⟨d0, d1⟩ := qf c8
 by_cases b2 : a4 = 2
 ·
  rw [if_pos b2] at H
  obtain ⟨b3, b4⟩ := qt b2
  clear b2
  simp only [Option.some.injEq, Prod.mk.injEq] at H
  obtain ⟨rfl, rfl, rfl, rfl, rfl⟩ := H
  go_enter Try.func64, Try.ntmps64
  go_wp2_with (first | ((with_reducible refine gD 1 ?_); refine bz 1 #[.int .i64 a4, .int .i64 a5, .int .i64 a7, .int .i64 a8, .string a6] 51 HB ?_; clear HB; intro b1 hg e0 hb a0 a9 HB; clear hb hg) | ((with_reducible refine gD 2 ?_); refine bz 2 #[.int .i64 0, .int .i64 0, .int .i64 0, .int .i64 0, .string (⟨#[]⟩ : ByteArray)] 51 HB ?_; clear HB; intro a3 hg e1 hb a2 b0 HB; have a1 := nL hg a0; replace a0 := kB a0 hb; clear hb hg; have d5 := nn a1; have b7 := y5 a0; have b8 := y5 a2))
  refine bodyPost_ret (results_cell_row rfl _ _ a3 51 #[.int .i64 5, .int .i64 a5, .int .i64 0, .int .i64 0, .string a6] (0, 0) _ rfl (pP a2.out) Try.underlying51 rfl (by kernel_rfl)) rfl ?_
  exact ⟨er, pB HB.out⟩
 rw [if_neg b2] at H
 obtain ⟨b3, b4⟩ := qf b2
 simp only [Option.some.injEq, Prod.mk.injEq] at H
 obtain ⟨rfl, rfl, rfl, rfl, rfl⟩ := H
 go_enter Try.func64, Try.ntmps64
 go_wp2_with (first | ((with_reducible refine gD 1 ?_); refine bz 1 #[.int .i64 a4, .int .i64 a5, .int .i64 a7, .int .i64 a8, .string a6] 51 HB ?_; clear HB; intro b1 hg e2 hb a0 a9 HB; clear hb hg) | ((with_reducible refine gD 2 ?_); refine bz 2 #[.int .i64 0, .int .i64 0, .int .i64 0, .int .i64 0, .string (⟨#[]⟩ : ByteArray)] 51 HB ?_; clear HB; intro a3 hg e3 hb a2 b0 HB; have a1 := nL hg a0; replace a0 := kB a0 hb; clear hb hg; have d6 := nn a1; have b9 := y5 a0; have c6 := y5 a2))
 refine bodyPost_ret (results_cell_row rfl _ _ a3 51 #[.int .i64 a4, .int .i64 a5, .int .i64 a7, .int .i64 a8, .string a6] (0, 0) _ rfl (pP a2.out) Try.underlying51 rfl (by kernel_rfl)) rfl ?_
 exact ⟨er, pB HB.out⟩
end Go.Proofs.Ytabmkighhmchmaa.X
