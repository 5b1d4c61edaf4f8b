/- Words and walks for the law RunLeases, joined and made small by a program of mine. -/
import Derived.Deep.Slices
import Derived.Deep.Fields
import Derived.ChangeSame
import Derived.WalkKit
import Derived.Test.YtabmkighhmchmaaC2
namespace Go.Proofs.Ytabmkighhmchmaa
open Go.RowKit Go.ChangeShapes Go.WideShapes Go.Deep Go.YW.PrintWords
def Opens {α : Type} (P : Program) (t : TypeId) (d : Kd α) (G : α → Prop) : Prop :=
 ∀ {H : Type} (enc : TypeId × Value → H) (w : World) (base : Nat) (spare : Nat → Bool) (held : Bool) (fuel : Nat) (cs : List Value) (x : DataW H × List MemPlace),
  DataW.trod enc P w base spare held fuel t cs = some x → ∃ a : α, d.K w a cs ∧ G a
theorem q3d {P : Program} {t : TypeId} {k : IntKind} (ht : P.underlying t = some (.int k)) : Opens P t (Kd.int k) (fun n => (Lit.int k n).wf = true) := by
 intro H enc w base spare held fuel cs x h
 obtain ⟨n, rfl, _, hw⟩ := DataW.trod_int ht h
 exact ⟨n, rfl, hw⟩
theorem opens_string {P : Program} {t : TypeId} (ht : P.underlying t = some .string) : Opens P t Kd.string (fun s => s.size ≤ maxLen) := by
 intro H enc w base spare held fuel cs x h
 obtain ⟨n, rfl, _, hs⟩ := DataW.trod_string ht h
 exact ⟨n, rfl, hs⟩
theorem opens_slice {α : Type} {P : Program} {t e : TypeId} {d : Kd α} {G : α → Prop} (ht : P.underlying t = some (.slice e)) (hsz : P.cellsOf e = d.sz) (hd : Opens P e d G) :
  Opens P t (Kd.slice e d) (fun l => l.length ≤ maxLen ∧ ∀ a ∈ l, G a) := by
 intro H enc w base spare held fuel cs x h
 rcases open_slice ht h with ⟨rfl, _⟩ | ⟨a, len, cap, m, n, D, Pl, rfl, _, hl, hm, hmm, _, hi⟩
 ·
  exact ⟨[], ⟨none, 0, rfl, Nat.le_refl _, rfl, by simp, fun h0 => absurd h0 (by simp)⟩, by simp, fun _ h0 => by cases h0⟩
 have hlm : len ≤ m := by rw [hmm]; split <;> omega
 have key : ∀ i, i < len → ∃ z : α × List Value, z.2.length = d.sz ∧ d.K w z.1 z.2 ∧ G z.1 ∧ ∀ j u, z.2[j]? = some u → w.cell? (a.add (i * d.sz + j)) = some u := by
  intro i hil
  obtain ⟨cs', hc, hr⟩ := hi i (by omega)
  rw [hsz] at hc
  obtain ⟨_, hcl, hat⟩ := World.cells?_some hc
  obtain ⟨y, hK, hG⟩ := hd enc w base spare held n cs' _ hr
  refine ⟨(y, cs'), hcl, hK, hG, fun j u hj => ?_⟩
  have hjl : j < cs'.length := (List.getElem?_eq_some_iff.1 hj).1
  have := hat j (by omega)
  rw [Go.Deep.add_add] at this
  rw [this]
  exact hj
 rcases Nat.eq_zero_or_pos len with rfl | hpos
 ·
  exact ⟨[], ⟨some a, cap, rfl, Nat.zero_le _, rfl, by simp, fun h0 => absurd h0 (by simp)⟩, by simp, fun _ h0 => by cases h0⟩
 obtain ⟨z0, _⟩ := key 0 hpos
 haveI : Inhabited (α × List Value) := ⟨z0⟩
 obtain ⟨f, hf⟩ := choose_lt key
 have hlen : ((List.range len).map fun i => (f i).1).length = len := by simp
 refine ⟨(List.range len).map fun i => (f i).1, ⟨some a, cap, by rw [hlen], by rw [hlen]; exact hl, ?_⟩, by rw [hlen]; omega, ?_⟩
 ·
  refine ⟨rfl, by rw [hlen]; unfold maxLen at hm; omega, fun _ => ⟨a, rfl, fun j p hj => ?_⟩⟩
  obtain ⟨hjl, hjp⟩ := List.getElem?_eq_some_iff.1 hj
  rw [hlen] at hjl
  simp at hjp
  obtain ⟨h1, h2, _, h4⟩ := hf j hjl
  exact ⟨(f j).2, h1, by rw [← hjp]; exact h2, h4⟩
 intro y hy
 obtain ⟨i, hir, rfl⟩ := List.mem_map.1 hy
 exact (hf i (List.mem_range.1 hir)).2.2.1
def OpensL {α : Type} (P : Program) (fs : List Field) (off C : Nat) (d : Kd α) (G : α → Prop) : Prop :=
 ∀ {H : Type} (enc : TypeId × Value → H) (w : World) (base : Nat) (spare : Nat → Bool) (held : Bool) (n : Nat) (cs : List Value), cs.length = C →
  (∀ f ∈ fs, ∃ y, DataW.trod enc P w base spare held n f.type ((cs.drop f.offset).take (P.cellsOf f.type)) = some y) → ∃ a : α, d.K w a (cs.drop off) ∧ G a
theorem opens_last {α : Type} {P : Program} {f : Field} {off C : Nat} {d : Kd α} {G : α → Prop} (hd : Opens P f.type d G) (ho : f.offset = off) (hc : off + P.cellsOf f.type = C) : OpensL P [f] off C d G := by
 intro H enc w base spare held n cs hl h
 obtain ⟨y, hy⟩ := h f (by simp)
 rw [ho, List.take_of_length_le (by rw [List.length_drop]; omega)] at hy
 exact hd enc w base spare held n _ _ hy
theorem q2k {α β : Type} {P : Program} {f : Field} {fs : List Field} {off off' C : Nat} {d : Kd α} {e : Kd β} {G : α → Prop} {G' : β → Prop} (hd : Opens P f.type d G) (ho : f.offset = off) (hn : off + P.cellsOf f.type = off') (he : OpensL P fs off' C e G') :
  OpensL P (f :: fs) off C (Kd.pair d e) (fun x => G x.1 ∧ G' x.2) := by
 intro H enc w base spare held n cs hl h
 obtain ⟨y, hy⟩ := h f (by simp)
 obtain ⟨b, hb, hg⟩ := he enc w base spare held n cs hl (fun g hgm => h g (by simp [hgm]))
 obtain ⟨a, ha, hga⟩ := hd enc w base spare held n _ _ hy
 refine ⟨(a, b), ⟨_, _, ?_, ha, hb⟩, hga, hg⟩
 rw [ho, ← hn, ← List.drop_drop, List.take_append_drop]
theorem q4a {α β : Type} {P : Program} {t : TypeId} {fs : Array Field} {d : Kd α} {G : α → Prop} (f : β → α) (g : α → β) (hfg : ∀ a, f (g a) = a) (ht : P.underlying t = some (.struct fs)) {C : Nat} (hC : P.cellsOf t = C)
  (hd : OpensL P fs.toList 0 C d G) : Opens P t (Kd.iso d f) (fun x => G (f x)) := by
 intro H enc w base spare held fuel cs x h
 obtain ⟨xs, n, _, _, hl, hxl, hf⟩ := DataW.trod_struct ht h
 obtain ⟨a, ha, hg⟩ := hd enc w base spare held n cs (by rw [hl, hC]) (fun z hz => by
  obtain ⟨i, hi, rfl⟩ := List.mem_iff_getElem.1 hz
  rw [Array.length_toList] at hi
  have := hf i (fs.toList[i]) (by rw [← Array.getElem?_toList]; exact List.getElem?_eq_getElem _)
  exact ⟨xs[i]'(by omega), by rw [this]; exact List.getElem?_eq_getElem _⟩)
 refine ⟨g a, ?_, ?_⟩
 ·
  show d.K w (f (g a)) cs
  rw [hfg]
  simpa using ha
 show G (f (g a))
 rw [hfg]
 exact hg
theorem opens_agg {α : Type} {H : Type} {enc : TypeId × Value → H} {P : Program} {w : World} {r : Reach} {b0 base : Nat} {spare : Nat → Bool} {held : Bool} {t : TypeId} {fs : Array Field} {v : Value} {y : DataW H} {p : List MemPlace} {d : Kd α} {G : α → Prop}
  (ho : Opens P t d G) (hs : P.underlying t = some (.struct fs)) (hv : Value.okWide P w r b0 t v) (h : DataW.Trod enc P w base spare held t v y p) : ∃ (a : α) (cs : List Value), v = .agg cs.toArray ∧ d.K w a cs ∧ G a := by
 obtain ⟨cs, rfl, _⟩ := okWide_struct hs hv
 obtain ⟨fuel, hf⟩ := h
 obtain ⟨a, hK, hG⟩ := ho _ _ _ _ _ _ _ _ hf
 exact ⟨a, cs.toList, by simp, by simpa [Value.cells] using hK, hG⟩
end Go.Proofs.Ytabmkighhmchmaa
