/- Words and walks for the law RunSettles, joined and made small by a program of mine. -/
import Derived.Test.YtabmkighhmchmaaG11
import Derived.Test.YtabmkighhmchmaaG10
import Derived.Deep.Slices
import Derived.Deep.Fields
import Derived.ChangeSame
import Derived.WalkKit
import Derived.Test.YtabmkighhmchmaaG2
namespace Go.Proofs.Ytabmkighhmchmaa.Pure
open Go.RowKit Go.Proofs.Ytabmkighhmchmaa.X Go.YW.PrintWords Go.YW.PrintLast
set_option linter.unusedVariables false
def q3a (t : S49) (s : S51) : Prop := q1r t.f1 s.f0 s.f1 s.f2 s.f3 s.f4
structure OkAt (ts : List S49) (xs : List S51) (j : Nat) : Prop where
 st : q3a (q0e ts (j : Int)) (q0c xs (j : Int))
 tok : 0 < (q0c xs (j : Int)).f3 → ∀ a, a < j → (q0c xs (a : Int)).f3 ≠ (q0c xs (j : Int)).f3
 wait : (q0c xs (j : Int)).f0 = 5 ∨ ((q0c xs (j : Int)).f0 = 0 ↔ q1p ts xs j = false)
theorem tokAt_iff (xs : List S51) (j : Nat) (hj : j < xs.length) : tokAt xs j 0 = true ↔ 0 < (q0c xs (j : Int)).f3 ∧ ∃ a, a < j ∧ (q0c xs (a : Int)).f3 = (q0c xs (j : Int)).f3 := by
 unfold tokAt
 rw [Bool.and_eq_true, decide_eq_true_eq, List.any_eq_true, List.drop_zero]
 refine and_congr Iff.rfl ⟨?_, ?_⟩
 ·
  rintro ⟨y, hy, e⟩
  obtain ⟨a, ha, rfl⟩ := List.mem_iff_getElem.1 hy
  rw [List.length_take] at ha
  rw [List.getElem_take] at e
  exact ⟨a, by omega, by rw [q2k xs a (by omega)]; simpa using e⟩
 rintro ⟨a, ha, e⟩
 rw [q2k xs a (by omega)] at e
 exact ⟨xs[a], List.mem_iff_getElem.2 ⟨a, by rw [List.length_take]; omega, by rw [List.getElem_take]⟩, by simpa using e⟩
theorem okB_iff (ts : List S49) (xs : List S51) (j : Nat) (hj : j < xs.length) : okB ts xs j = true ↔ OkAt ts xs j := by
 unfold okB stB waitB
 simp only [Bool.and_eq_true, Bool.or_eq_true, decide_eq_true_eq, Bool.not_eq_true', bne_iff_ne]
 constructor
 ·
  rintro ⟨h1, h2, h3⟩
  refine ⟨h1, fun h0 a ha e => ?_, h3.imp id fun h => ?_⟩
  ·
   rw [(tokAt_iff xs j hj).2 ⟨h0, a, ha, e⟩] at h2; cases h2
  by_cases e : (q0c xs (j : Int)).f0 = 0
  ·
   rw [decide_eq_true e] at h
   exact ⟨fun _ => by cases hr : q1p ts xs j; rfl; rw [hr] at h; exact absurd rfl h, fun _ => e⟩
  rw [decide_eq_false e] at h
  exact ⟨fun h' => absurd h' e, fun hr => by rw [hr] at h; exact absurd rfl h⟩
 rintro ⟨h1, h2, h3⟩
 refine ⟨h1, ?_, h3.imp id fun h => ?_⟩
 ·
  cases ht : tokAt xs j 0
  ·
   rfl
  obtain ⟨h0, a, ha, e⟩ := (tokAt_iff xs j hj).1 ht
  exact absurd e (h2 h0 a ha)
 by_cases e : (q0c xs (j : Int)).f0 = 0
 ·
  rw [decide_eq_true e, h.1 e]; decide
 rw [decide_eq_false e]
 cases hr : q1p ts xs j
 ·
  exact absurd (h.2 hr) e
 decide
theorem q4c (ts : List S49) (xs : List S51) : allOk ts xs 0 xs.length = true ↔ ∀ j, j < xs.length → OkAt ts xs j :=
 ⟨fun h j hj => (okB_iff ts xs j hj).1 (allOk_at h j hj), fun h => List.all_eq_true.2 fun j hj => by rw [List.mem_range'_1] at hj; exact (okB_iff ts xs j (by omega)).2 (h j (by omega))⟩
theorem hasB_iff (c : Int) (xs : List S51) : hasB c xs = true ↔ ∃ j, j < xs.length ∧ (q0c xs (j : Int)).f0 = c := by
 unfold hasB
 rw [List.any_eq_true]
 constructor
 ·
  rintro ⟨s, hs, e⟩
  obtain ⟨j, hj, rfl⟩ := List.mem_iff_getElem.1 hs
  exact ⟨j, hj, by rw [q2k xs j hj]; simpa using e⟩
 rintro ⟨j, hj, e⟩
 exact ⟨q0c xs (j : Int), q3q (by omega) (by omega), by simpa using e⟩
theorem q5c (c : Int) (xs : List S51) : hasB c xs = false ↔ ∀ j, j < xs.length → (q0c xs (j : Int)).f0 ≠ c := by
 constructor
 ·
  intro h j hj e
  rw [(hasB_iff c xs).2 ⟨j, hj, e⟩] at h; cases h
 intro h
 cases hb : hasB c xs
 ·
  rfl
 obtain ⟨j, hj, e⟩ := (hasB_iff c xs).1 hb
 exact absurd e (h j hj)
theorem open_iff (xs : List S51) : q3h xs = true ↔ ∃ j, j < xs.length ∧ ((q0c xs (j : Int)).f0 = 0 ∨ (q0c xs (j : Int)).f0 = 1 ∨ (q0c xs (j : Int)).f0 = 2) := by
 unfold q3h
 simp only [Bool.or_eq_true, hasB_iff]
 constructor
 ·
  rintro (⟨j, hj, e⟩ | ⟨j, hj, e⟩ | ⟨j, hj, e⟩)
  ·
   exact ⟨j, hj, .inl e⟩
  ·
   exact ⟨j, hj, .inr (.inl e)⟩
  exact ⟨j, hj, .inr (.inr e)⟩
 rintro ⟨j, hj, e | e | e⟩
 ·
  exact .inl ⟨j, hj, e⟩
 ·
  exact .inr (.inl ⟨j, hj, e⟩)
 exact .inr (.inr ⟨j, hj, e⟩)
theorem open_no (xs : List S51) : q3h xs = false ↔ ∀ j, j < xs.length → (q0c xs (j : Int)).f0 ≠ 0 ∧ (q0c xs (j : Int)).f0 ≠ 1 ∧ (q0c xs (j : Int)).f0 ≠ 2 := by
 constructor
 ·
  intro h j hj
  refine ⟨fun e => ?_, fun e => ?_, fun e => ?_⟩
  ·
   rw [(open_iff xs).2 ⟨j, hj, .inl e⟩] at h; cases h
  ·
   rw [(open_iff xs).2 ⟨j, hj, .inr (.inl e)⟩] at h; cases h
  rw [(open_iff xs).2 ⟨j, hj, .inr (.inr e)⟩] at h; cases h
 intro h
 cases hb : q3h xs
 ·
  rfl
 obtain ⟨j, hj, e⟩ := (open_iff xs).1 hb
 have := h j hj
 omega
theorem fits0 {xs : List S51} : fitsB 0 xs = true ↔ q3h xs = true ∧ hasB 4 xs = false ∧ hasB 5 xs = false := by
 unfold fitsB
 cases q3h xs <;> cases hasB 4 xs <;> cases hasB 5 xs <;> decide
theorem fits1 {xs : List S51} (h0 : q3h xs = false) (h4 : hasB 4 xs = false) (h5 : hasB 5 xs = false) : fitsB 1 xs = true := by unfold fitsB; rw [h0, h4, h5]; rfl
theorem fits2 {xs : List S51} (h0 : q3h xs = false) (h4 : hasB 4 xs = true) : fitsB 2 xs = true := by unfold fitsB; rw [h0, h4]; rfl
theorem fits3 {xs : List S51} (h0 : q3h xs = false) (h4 : hasB 4 xs = false) (h5 : hasB 5 xs = true) : fitsB 3 xs = true := by unfold fitsB; rw [h0, h4, h5]; rfl
theorem rd_set {xs : List S51} {i : Nat} (hi : i < xs.length) (s : S51) (j : Nat) : q0c (xs.set i s) (j : Int) = if i = j then s else q0c xs (j : Int) := by
 unfold q0c
 simp only [Int.toNat_natCast, List.getD_eq_getElem?_getD]
 by_cases h : i = j
 ·
  subst h
  rw [if_pos rfl, List.getElem?_set_self hi]
  rfl
 rw [if_neg h, List.getElem?_set_ne h]
theorem rd_map {xs : List S51} (f : S51 → S51) {j : Nat} (hj : j < xs.length) : q0c (xs.map f) (j : Int) = f (q0c xs (j : Int)) := by
 rw [q2k _ j (by rw [List.length_map]; exact hj), q2k xs j hj, List.getElem_map]
theorem q4f {ts : List S49} {xs ys : List S51} {n : Nat} (hw : Wf ts n) {j : Nat} (hj : j < n) (h : ∀ x : Nat, x < n → ((q0c xs (x : Int)).f0 = 3 ↔ (q0c ys (x : Int)).f0 = 3)) : q1p ts xs j = q1p ts ys j := by
 unfold q1p
 have hb := (hw.2.2 j hj).2
 rw [Bool.eq_iff_iff, List.all_eq_true, List.all_eq_true]
 refine forall_congr' fun x => ⟨fun h1 hx => ?_, fun h1 hx => ?_⟩
 ·
  obtain ⟨q, rfl⟩ := Int.eq_ofNat_of_zero_le (hb x hx).1
  have := h q (by have := (hb _ hx).2; omega)
  simpa [← this] using h1 hx
 obtain ⟨q, rfl⟩ := Int.eq_ofNat_of_zero_le (hb x hx).1
 have := h q (by have := (hb _ hx).2; omega)
 simpa [this] using h1 hx
theorem readyB_mono {ts : List S49} {xs ys : List S51} {n : Nat} (hw : Wf ts n) {j : Nat} (hj : j < n) (h : ∀ x : Nat, x < n → (q0c xs (x : Int)).f0 = 3 → (q0c ys (x : Int)).f0 = 3) (hr : q1p ts xs j = true) : q1p ts ys j = true := by
 unfold q1p at hr ⊢
 have hb := (hw.2.2 j hj).2
 rw [List.all_eq_true] at hr ⊢
 intro x hx
 obtain ⟨q, rfl⟩ := Int.eq_ofNat_of_zero_le (hb x hx).1
 have := h q (by have := (hb _ hx).2; omega) (by simpa using hr _ hx)
 simpa using this
theorem rd_ready {ts : List S49} {xs : List S51} (hw : Wf ts xs.length) : ∀ (q j : Nat), q ≤ xs.length → q0c (q1m ts xs q) (j : Int) = if j < q ∧ q1p ts xs j = true then q2e (q0c xs (j : Int)) else q0c xs (j : Int)
 | 0, j, _ => by rw [if_neg (by omega)]; rfl
 | q + 1, j, hq => by
  have ih := fun j => rd_ready hw q j (by omega)
  have hc : q1p ts (q1m ts xs q) q = q1p ts xs q := q4f hw (by omega) fun x hx => by
   rw [ih x]
   split
   ·
    rw [q4q]; split <;> omega
   exact Iff.rfl
  rw [q1m, hc]
  by_cases hr : q1p ts xs q = true
  ·
   rw [if_pos hr, rd_set (by rw [q3d]; omega)]
   by_cases e : q = j
   ·
    subst e
    rw [if_pos rfl, if_pos ⟨by omega, hr⟩]
   rw [if_neg e, ih j]
   by_cases h1 : j < q ∧ q1p ts xs j = true
   ·
    rw [if_pos h1, if_pos ⟨by omega, h1.2⟩]
   rw [if_neg h1, if_neg (fun h => h1 ⟨by omega, h.2⟩)]
  rw [if_neg hr, ih j]
  by_cases h1 : j < q ∧ q1p ts xs j = true
  ·
   rw [if_pos h1, if_pos ⟨by omega, h1.2⟩]
  rw [if_neg h1, if_neg (fun h => ?_)]
  rcases Nat.lt_or_ge j q with h2 | h2
  ·
   exact h1 ⟨h2, h.2⟩
  have e : j = q := by omega
  subst e
  exact hr h.2
theorem cancel_right_s {t : S49} {s : S51} (h : q3a t s) : q3a t (q0u s) := by
 unfold q3a q1r q1i at *
 unfold q0u
 split
 ·
  dsimp only
  refine ⟨⟨by omega, by omega, by omega, by omega, by omega, by omega, by omega, by omega, by omega, h.1.2.2.2.2.2.2.2.2.2.1, .inl (h.1.2.2.2.2.2.2.2.2.2.2.resolve_right (by omega))⟩, by omega, by omega, by omega, by omega, by omega, by omega⟩
 exact h
theorem ready_right_s {t : S49} {s : S51} (h : q3a t s) (h1 : 1 ≤ t.f1) : q3a t (q2e s) := by
 unfold q3a q1r q1i at *
 unfold q2e
 split
 ·
  dsimp only
  refine ⟨⟨by omega, by omega, by omega, by omega, by omega, by omega, by omega, by omega, by omega, h.1.2.2.2.2.2.2.2.2.2.1, .inl (h.1.2.2.2.2.2.2.2.2.2.2.resolve_right (by omega))⟩, by omega, by omega, by omega, by omega, by omega, by omega⟩
 exact h
theorem readyS_f3 (s : S51) : (q2e s).f3 = s.f3 := by unfold q2e; split <;> rfl
theorem tok_zero {t : S49} {s : S51} (h : q3a t s) (h2 : s.f0 ≠ 2) : s.f3 = 0 := by
 have := h.1.2.2.2.2.2.2
 omega
theorem run_mk {ky : ByteArray} {ts : List S49} {is : Int} {xs zs : List S51} {is' : Int} (h : runB ky ts is xs = true) (hl : zs.length = xs.length) (hf : fitsB is' zs = true) (ho : ∀ j, j < zs.length → OkAt ts zs j) : runB ky ts is' zs = true := by
 obtain ⟨h1, h2, h3, _, _⟩ := run_parts h
 unfold runB
 simp only [Bool.and_eq_true, decide_eq_true_eq]
 exact ⟨h1, h2, by omega, hf, (q4c ts zs).2 ho⟩
theorem cancel_ok {nm : ByteArray} {ts : List S49} {xs : List S51} (hd : q2w nm ts) (hl : xs.length = ts.length) (h : ∀ j, j < xs.length → q3a (q0e ts (j : Int)) (q0c xs (j : Int)))
  (hr : ∀ j, j < xs.length → (q0c xs (j : Int)).f0 = 3 ∨ (q0c xs (j : Int)).f0 = 4 → q1p ts xs j = true) : ∀ j, j < (xs.map q0u).length → OkAt ts (xs.map q0u) j := by
 intro j hj
 rw [List.length_map] at hj
 have hw := hd.wf hl
 have a0 := h j hj
 have hc := q4f (xs := xs) (ys := xs.map q0u) hw hj (fun x hx => by rw [rd_map q0u hx, q2s]; split <;> omega)
 have h0 : (q0u (q0c xs (j : Int))).f0 = 3 ∨ (q0u (q0c xs (j : Int))).f0 = 4 ∨ (q0u (q0c xs (j : Int))).f0 = 5 := by
  have := a0.1
  rw [q2s]
  unfold q1i at this
  split <;> omega
 refine ⟨?_, ?_, ?_⟩
 ·
  rw [rd_map q0u hj]; exact cancel_right_s a0
 ·
  rw [rd_map q0u hj]
  intro h1
  have := tok_zero (cancel_right_s a0) (by omega)
  omega
 rw [rd_map q0u hj, ← hc]
 have a1 := hr j hj
 rw [q2s] at h0 ⊢
 by_cases h5 : (q0c xs (j : Int)).f0 = 3 ∨ (q0c xs (j : Int)).f0 = 4
 ·
  rw [if_neg (by omega), a1 h5]
  exact .inr ⟨fun e => by omega, fun e => by cases e⟩
 refine .inl ?_
 split at h0 <;> split <;> omega
theorem mendP_lost {ts : List S49} {is : Int} {xs : List S51} (h : hasB 4 xs = true) : mendP ts is xs = (2, xs.map q0u) := if_pos h
theorem mendP_goes {ts : List S49} {is : Int} {xs : List S51} (h : hasB 4 xs = false) : mendP ts is xs = (if allB 3 (q1m ts xs xs.length) = true then 1 else is, q1m ts xs xs.length) := if_neg (by rw [h]; decide)
theorem mend_right {ky nm : ByteArray} {ts : List S49} {xs : List S51} (hd : q2w nm ts) (h : runB ky ts 0 xs = true) {i : Nat} (hi : i < xs.length) (h2 : (q0c xs (i : Int)).f0 = 2) {s : S51} (hs : q3a (q0e ts (i : Int)) s)
  (h0 : s.f0 = 1 ∨ s.f0 = 2 ∨ s.f0 = 3 ∨ s.f0 = 4) (h3 : s.f3 = 0 ∨ s.f3 = (q0c xs (i : Int)).f3) : runB ky ts (mendP ts 0 (xs.set i s)).1 (mendP ts 0 (xs.set i s)).2 = true := by
 obtain ⟨_, _, hl, hf, ha⟩ := run_parts h
 obtain ⟨f1, f2, f3⟩ := fits0.1 hf
 have ho := (q4c ts xs).1 ha
 have hw := hd.wf hl
 rw [q5c] at f2 f3
 have hy : ∀ j : Nat, q0c (xs.set i s) (j : Int) = if i = j then s else q0c xs (j : Int) := rd_set hi s
 have a3 : (xs.set i s).length = xs.length := List.length_set
 have a6 : ∀ j, j < (xs.set i s).length → q3a (q0e ts (j : Int)) (q0c (xs.set i s) (j : Int)) := by
  intro j hj
  rw [hy]
  split
  ·
   rename_i e; subst e; exact hs
  exact (ho j (by omega)).st
 have a9 : ∀ x : Nat, x < xs.length → (q0c xs (x : Int)).f0 = 3 → (q0c (xs.set i s) (x : Int)).f0 = 3 := by
  intro x hx e
  rw [hy, if_neg (fun e2 => by subst e2; omega)]
  exact e
 have a7 : ∀ j, j < xs.length → (q0c (xs.set i s) (j : Int)).f0 ≠ 0 → q1p ts (xs.set i s) j = true := by
  intro j hj e
  refine readyB_mono hw hj a9 ?_
  have h1 := ((ho j hj).wait.resolve_left (f3 j hj))
  have h4 : (q0c xs (j : Int)).f0 ≠ 0 := by
   rw [hy] at e
   split at e
   ·
    rename_i e2; subst e2; omega
   exact e
  cases hr : q1p ts xs j
  ·
   exact absurd (h1.2 hr) h4
  rfl
 cases h4 : hasB 4 (xs.set i s)
 ·
  rw [mendP_goes h4]
  dsimp only
  have a4 : (q1m ts (xs.set i s) (xs.set i s).length).length = xs.length := by rw [q3d, a3]
  have hz : ∀ j : Nat, j < xs.length → q0c (q1m ts (xs.set i s) (xs.set i s).length) (j : Int) = if q1p ts (xs.set i s) j = true then q2e (q0c (xs.set i s) (j : Int)) else q0c (xs.set i s) (j : Int) := by
   intro j hj
   rw [rd_ready (by rw [a3]; exact hw) _ j (Nat.le_refl _), a3]
   by_cases hr : q1p ts (xs.set i s) j = true
   ·
    rw [if_pos ⟨hj, hr⟩, if_pos hr]
   rw [if_neg (fun e => hr e.2), if_neg hr]
  have b0 : ∀ x : Nat, x < xs.length → ((q0c (xs.set i s) (x : Int)).f0 = 3 ↔ (q0c (q1m ts (xs.set i s) (xs.set i s).length) (x : Int)).f0 = 3) := by
   intro x hx
   rw [hz x hx]
   split
   ·
    rw [q4q]; split <;> omega
   exact Iff.rfl
  have b1 := fun j hj => q4f (j := j) hw hj b0
  have a1 : ∀ x : Nat, x < xs.length → (q0c (q1m ts (xs.set i s) (xs.set i s).length) (x : Int)).f3 = (q0c (xs.set i s) (x : Int)).f3 := by
   intro x hx
   rw [hz x hx]
   split
   ·
    exact readyS_f3 _
   rfl
  rw [q5c] at h4
  have a2 : ∀ j, j < (q1m ts (xs.set i s) (xs.set i s).length).length → OkAt ts (q1m ts (xs.set i s) (xs.set i s).length) j := by
   intro j hj
   rw [a4] at hj
   refine ⟨?_, ?_, ?_⟩
   ·
    rw [hz j hj]
    split
    ·
     exact ready_right_s (a6 j (by omega)) (hd.task (i := j) (by omega)).2.2.1
    exact a6 j (by omega)
   ·
    intro hp a a5
    rw [a1 j hj] at hp ⊢
    rw [a1 a (by omega)]
    rw [hy] at hp ⊢
    rw [hy]
    by_cases e1 : i = j
    ·
     subst e1
     rw [if_pos rfl] at hp ⊢
     rw [if_neg (by omega)]
     rcases h3 with h3 | h3
     ·
      omega
     rw [h3] at hp ⊢
     exact (ho i hj).tok hp a a5
    rw [if_neg e1] at hp ⊢
    by_cases e2 : i = a
    ·
     subst e2
     rw [if_pos rfl]
     rcases h3 with h3 | h3
     ·
      omega
     rw [h3]; exact (ho j hj).tok hp i a5
    rw [if_neg e2]
    exact (ho j hj).tok hp a a5
   refine .inr ?_
   rw [← b1 j hj, hz j hj]
   cases hr : q1p ts (xs.set i s) j
   ·
    rw [if_neg (by decide)]
    refine ⟨fun _ => rfl, fun _ => ?_⟩
    by_cases e : (q0c (xs.set i s) (j : Int)).f0 = 0
    ·
     exact e
    rw [a7 j hj e] at hr; cases hr
   rw [if_pos rfl, q4q]
   refine ⟨fun e => ?_, fun e => by cases e⟩
   split at e <;> omega
  have z4 : hasB 4 (q1m ts (xs.set i s) (xs.set i s).length) = false := by
   rw [q5c]
   intro j hj
   rw [a4] at hj
   have := h4 j (by omega)
   rw [hz j hj]
   split
   ·
    rw [q4q]; split <;> omega
   exact this
  have z5 : hasB 5 (q1m ts (xs.set i s) (xs.set i s).length) = false := by
   rw [q5c]
   intro j hj
   rw [a4] at hj
   have h5 : (q0c (xs.set i s) (j : Int)).f0 ≠ 5 := by
    rw [hy]
    split
    ·
     omega
    exact f3 j hj
   rw [hz j hj]
   split
   ·
    rw [q4q]; split <;> omega
   exact h5
  have a8 : In5 (q1m ts (xs.set i s) (xs.set i s).length) := in5_of ((q4c _ _).2 a2)
  have a0 := all3 _ a8
  rw [z4, z5] at a0
  refine run_mk h a4 ?_ a2
  cases hb : allB 3 (q1m ts (xs.set i s) (xs.set i s).length)
  ·
   rw [if_neg (by decide), fits0]
   rw [hb] at a0
   exact ⟨by simpa using a0.symm, z4, z5⟩
  rw [if_pos rfl]
  rw [hb] at a0
  exact fits1 (by simpa using a0.symm) z4 z5
 rw [mendP_lost h4]
 dsimp only
 have a2 := cancel_ok hd (xs := xs.set i s) (by omega) a6 (fun j hj e => a7 j (by omega) (by omega))
 refine run_mk h (by rw [List.length_map, a3]) (fits2 ?_ ?_) a2
 ·
  rw [open_no]
  intro j hj
  rw [List.length_map] at hj
  rw [rd_map q0u hj, q2s]
  split <;> omega
 obtain ⟨j, hj, e⟩ := (hasB_iff _ _).1 h4
 rw [hasB_iff]
 refine ⟨j, by rw [List.length_map]; exact hj, ?_⟩
 rw [rd_map q0u hj, q2s, if_neg (by omega)]
 exact e
theorem held_goes {ky : ByteArray} {ts : List S49} {is : Int} {xs : List S51} (h : runB ky ts is xs = true) {i : Nat} (hi : i < xs.length) (h2 : (q0c xs (i : Int)).f0 = 2 ∨ (q0c xs (i : Int)).f0 = 1) : is = 0 := by
 by_cases h0 : is = 0
 ·
  exact h0
 have := (open_no xs).1 (fits_over (run_parts h).2.2.2.1 h0) i hi
 omega
theorem exp_right {t : S49} {s : S51} {now : Int} (h : q3a t s) (h2 : s.f0 = 2) (hd : s.f2 ≤ unt now []) : q3a t (expS t s now) ∧ ((expS t s now).f0 = 1 ∨ (expS t s now).f0 = 4) ∧ (expS t s now).f3 = 0 := by
 have hb := unt_bd s.f2 [aft t.f2 s.f1]
 unfold q3a q1r q1i at *
 unfold expS ofV expireV
 rw [if_pos ⟨h2, hd⟩]
 have hr := h.1.2.2.2.2.2.2.2.2.2.2.resolve_right (by omega)
 split
 ·
  dsimp only
  exact ⟨⟨⟨by omega, by omega, by omega, by omega, by omega, by omega, by omega, by omega, by omega, h.1.2.2.2.2.2.2.2.2.2.1, .inl hr⟩, by omega, by omega, by omega, by omega, by omega, by omega⟩, .inr rfl, rfl⟩
 dsimp only
 exact ⟨⟨⟨by omega, by omega, by omega, by omega, by omega, by omega, by omega, by omega, by omega, h.1.2.2.2.2.2.2.2.2.2.1, .inl hr⟩, by omega, by omega, by omega, by omega, by omega, by omega⟩, .inl rfl, rfl⟩
theorem step_right {ky nm : ByteArray} {ts : List S49} {now : Int} {p : Int × List S51} (hd : q2w nm ts) (h : runB ky ts p.1 p.2 = true) : runB ky ts (stepS ts now p).1 (stepS ts now p).2 = true := by
 by_cases h0 : 0 ≤ fst_ (unt now []) p.2
 ·
  obtain ⟨i, e, c⟩ := fst_cand h0
  have hz := held_goes h c.1 (.inl c.2.1)
  rw [stepS_yes e, hz]
  rw [hz] at h
  have hx := exp_right (now := now) ((q4c _ _).1 (run_parts h).2.2.2.2 i c.1).st c.2.1 c.2.2
  exact mend_right hd h c.1 c.2.1 hx.1 (by omega) (.inl hx.2.2)
 rw [stepS_no h0]; exact h
theorem iter_right {ky nm : ByteArray} {ts : List S49} {now : Int} (hd : q2w nm ts) : ∀ (n : Nat) (p : Int × List S51), runB ky ts p.1 p.2 = true → runB ky ts (iterS ts now n p).1 (iterS ts now n p).2 = true
 | 0, p, h => h
 | n + 1, p, h => iter_right hd n _ (step_right hd h)
theorem set_right {ky nm : ByteArray} {ts : List S49} {now : Int} {p : Int × List S51} (hd : q2w nm ts) (h : runB ky ts p.1 p.2 = true) : runB ky ts (setP ts now p).1 (setP ts now p).2 = true := iter_right hd _ p h
theorem set_again {ts : List S49} {now : Int} {p : Int × List S51} (h : ¬ 0 ≤ fst_ (unt now []) p.2) : setP ts now p = p := q4l h _
theorem set_word {ts : List S49} {now : Int} {p : Int × List S51} (h : p.1 ≠ 0) {ky : ByteArray} (hr : runB ky ts p.1 p.2 = true) : setP ts now p = p := set_again (fst_held (held_of (fits_over (run_parts hr).2.2.2.1 h)))
theorem lease_right {ky nm : ByteArray} {ts : List S49} {now token : Int} {p : Int × List S51} (hd : q2w nm ts) (h : runB ky ts p.1 p.2 = true) (h0 : (leaseR ts now token p).1 = 0) :
  p.1 = 0 ∧ runB ky ts (leaseR ts now token p).2.1 (leaseR ts now token p).2.2.1 = true ∧ ∃ j : Nat, j < p.2.length ∧ (q0c p.2 (j : Int)).f0 = 1 ∧ (leaseR ts now token p).2 = (0, p.2.set j (leaseP now token (q0e ts (j : Int)) (q0c p.2 (j : Int))).1, (j : Int)) ∧
   (leaseP now token (q0e ts (j : Int)) (q0c p.2 (j : Int))).1 = ⟨2, (q0c p.2 (j : Int)).f1 + 1, unt now [(q0e ts (j : Int)).f3], token, (q0c p.2 (j : Int)).f4⟩ := by
 unfold leaseR at h0 ⊢
 by_cases h1 : token < 1 ∨ 1099511627776 < token
 ·
  rw [if_pos h1] at h0; cases h0
 rw [if_neg h1] at h0 ⊢
 by_cases h2 : (p.2.any fun s => s.f3 == token) = true
 ·
  rw [if_pos h2] at h0; cases h0
 rw [if_neg h2] at h0 ⊢
 rcases dueI_lt now p.1 p.2 p.2.length 0 with h3 | ⟨j, h3, h4, h5, h6, h7, h8⟩
 ·
  rw [if_pos (by omega)] at h0; cases h0
 rw [h3, if_neg (by omega), Int.toNat_natCast]
 have hj : j < p.2.length := by omega
 rw [h6] at h ⊢
 obtain ⟨_, _, hl, hf, ha⟩ := run_parts h
 obtain ⟨f1, f2, f3⟩ := fits0.1 hf
 have ho := (q4c ts p.2).1 ha
 have hw := hd.wf hl
 have a2 := (ho j hj).st
 have hb := unt_bd now [(q0e ts (j : Int)).f3]
 have hp : (leaseP now token (q0e ts (j : Int)) (q0c p.2 (j : Int))).1 = ⟨2, (q0c p.2 (j : Int)).f1 + 1, unt now [(q0e ts (j : Int)).f3], token, (q0c p.2 (j : Int)).f4⟩ := by
  have hr := a2.1
  unfold q1i at hr
  unfold leaseP leaseV ofA
  rw [if_neg (by omega), if_pos ⟨h7, h8⟩]
  dsimp only
  rw [w64_in _ (by omega)]
 refine ⟨rfl, ?_, j, hj, h7, rfl, hp⟩
 dsimp only
 rw [hp]
 generalize hs : (⟨2, (q0c p.2 (j : Int)).f1 + 1, unt now [(q0e ts (j : Int)).f3], token, (q0c p.2 (j : Int)).f4⟩ : S51) = s
 have hy : ∀ x : Nat, q0c (p.2.set j s) (x : Int) = if j = x then s else q0c p.2 (x : Int) := rd_set hj s
 have e0 : s.f0 = 2 := by subst hs; rfl
 have e3 : s.f3 = token := by subst hs; rfl
 have a4 : q3a (q0e ts (j : Int)) s := by
  subst hs
  unfold q3a q1r q1i at *
  dsimp only
  exact ⟨⟨by omega, by omega, by omega, by have := (hd.task (i := j) (by omega)).2.2.2.1; omega, by omega, by omega, by omega, by omega, by omega, a2.1.2.2.2.2.2.2.2.2.2.1, .inl (a2.1.2.2.2.2.2.2.2.2.2.2.resolve_right (by omega))⟩, by omega, by omega, by omega, by omega, by omega, by omega⟩
 have hc : ∀ x : Nat, x < p.2.length → ((q0c p.2 (x : Int)).f0 = 3 ↔ (q0c (p.2.set j s) (x : Int)).f0 = 3) := by
  intro x hx
  rw [hy]
  split
  ·
   rename_i e; subst e; omega
  exact Iff.rfl
 have a0 : ∀ x : Nat, x < p.2.length → (q0c p.2 (x : Int)).f3 ≠ token := by
  intro x hx e
  exact h2 (List.any_eq_true.2 ⟨q0c p.2 (x : Int), q3q (by omega) (by omega), by simpa using e⟩)
 rw [q5c] at f2 f3
 refine run_mk h (by rw [List.length_set]) (fits0.2 ⟨(open_iff _).2 ⟨j, by rw [List.length_set]; exact hj, by rw [hy, if_pos rfl]; omega⟩, ?_, ?_⟩) ?_
 ·
  rw [q5c]
  intro x hx
  rw [List.length_set] at hx
  rw [hy]
  split
  ·
   omega
  exact f2 x hx
 ·
  rw [q5c]
  intro x hx
  rw [List.length_set] at hx
  rw [hy]
  split
  ·
   omega
  exact f3 x hx
 intro x hx
 rw [List.length_set] at hx
 have a1 := ho x hx
 refine ⟨?_, ?_, ?_⟩
 ·
  rw [hy]
  split
  ·
   rename_i e; subst e; exact a4
  exact a1.st
 ·
  intro hp a a3
  rw [hy] at hp ⊢
  rw [hy]
  by_cases e1 : j = x
  ·
   subst e1
   rw [if_pos rfl] at hp ⊢
   rw [if_neg (by omega), e3]
   exact a0 a (by omega)
  rw [if_neg e1] at hp ⊢
  by_cases e2 : j = a
  ·
   rw [if_pos e2, e3]
   exact fun e => a0 x hx e.symm
  rw [if_neg e2]; exact a1.tok hp a a3
 refine .inr ?_
 have h9 := a1.wait.resolve_left (f3 x hx)
 rw [← q4f hw hx hc, hy]
 by_cases e1 : j = x
 ·
  subst e1
  rw [if_pos rfl]
  exact ⟨fun e => by omega, fun e => by have := h9.2 e; omega⟩
 rw [if_neg e1]; exact h9
def Tells (a0 : S49 → S51 → S51 × Int) : Prop := ∀ t s, q3a t s → s.f0 = 2 → (a0 t s).2 = 0 → q3a t (a0 t s).1 ∧ ((a0 t s).1.f0 = 1 ∨ (a0 t s).1.f0 = 2 ∨ (a0 t s).1.f0 = 3 ∨ (a0 t s).1.f0 = 4) ∧ ((a0 t s).1.f3 = 0 ∨ (a0 t s).1.f3 = s.f3)
theorem tells_beat (now : Int) : Tells (beatP now) := by
 intro t s h h2 h0
 have hb := unt_bd now [t.f3]
 unfold beatP ofA beatV at *
 rw [if_pos h2] at h0 ⊢
 unfold q3a q1r q1i at *
 dsimp only
 exact ⟨⟨⟨h.1.1, h.1.2.1, h.1.2.2.1, h.1.2.2.2.1, by omega, by omega, by omega, by omega, by omega, h.1.2.2.2.2.2.2.2.2.2.1, h.1.2.2.2.2.2.2.2.2.2.2⟩, by omega, by omega, by omega, by omega, by omega, by omega⟩, by omega, .inr rfl⟩
theorem tells_done (r : ByteArray) : Tells (doneP r) := by
 intro t s h h2 h0
 unfold doneP ofA doneV at *
 rw [if_pos h2] at h0 ⊢
 by_cases hr : r.size ≤ 16
 ·
  rw [if_pos hr] at h0 ⊢
  unfold q3a q1r q1i at *
  dsimp only
  exact ⟨⟨⟨by omega, by omega, by omega, by omega, by omega, by omega, by omega, by omega, by omega, hr, .inr rfl⟩, by omega, by omega, by omega, by omega, by omega, by omega⟩, by omega, .inl rfl⟩
 rw [if_neg hr] at h0; cases h0
theorem tells_fail (now : Int) : Tells (failP now) := by
 intro t s h h2 h0
 have hb := unt_bd now [aft t.f2 s.f1]
 unfold failP ofA failV at *
 rw [if_pos h2] at h0 ⊢
 unfold q3a q1r q1i at *
 have hr := h.1.2.2.2.2.2.2.2.2.2.2.resolve_right (by omega)
 split
 ·
  dsimp only
  exact ⟨⟨⟨by omega, by omega, by omega, by omega, by omega, by omega, by omega, by omega, by omega, h.1.2.2.2.2.2.2.2.2.2.1, .inl hr⟩, by omega, by omega, by omega, by omega, by omega, by omega⟩, by omega, .inl rfl⟩
 dsimp only
 exact ⟨⟨⟨by omega, by omega, by omega, by omega, by omega, by omega, by omega, by omega, by omega, h.1.2.2.2.2.2.2.2.2.2.1, .inl hr⟩, by omega, by omega, by omega, by omega, by omega, by omega⟩, by omega, .inl rfl⟩
theorem told_right {ky nm : ByteArray} {ts : List S49} {now token : Int} {act : S49 → S51 → S51 × Int} {p : Int × List S51} (hd : q2w nm ts) (ht : Tells act) (h : runB ky ts p.1 p.2 = true) (h0 : (toldP ts now token act p).1 = 0) :
  (setP ts now p).1 = 0 ∧ runB ky ts (toldP ts now token act p).2.1 (toldP ts now token act p).2.2 = true ∧ ∃ j : Nat, heldI token (setP ts now p).2 0 (setP ts now p).2.length = (j : Int) ∧ j < (setP ts now p).2.length ∧ (q0c (setP ts now p).2 (j : Int)).f0 = 2 ∧ (q0c (setP ts now p).2 (j : Int)).f3 = token ∧
   (act (q0e ts (j : Int)) (q0c (setP ts now p).2 (j : Int))).2 = 0 ∧
   (toldP ts now token act p).2 = mendP ts 0 ((setP ts now p).2.set j (act (q0e ts (j : Int)) (q0c (setP ts now p).2 (j : Int))).1) := by
 have hs := set_right (now := now) hd h
 unfold toldP toldAt at h0 ⊢
 rcases heldI_lt token (setP ts now p).2 (setP ts now p).2.length 0 with h1 | ⟨j, h1, h2, h3, h4, h5⟩
 ·
  rw [if_pos h1] at h0; cases h0
 rw [h1, if_neg (by omega)] at h0 ⊢
 have hz := held_goes hs (i := j) (by omega) (.inl h4)
 rw [hz] at hs h0 ⊢
 have a0 := ((q4c _ _).1 (run_parts hs).2.2.2.2 j (by omega)).st
 by_cases e : (act (q0e ts (j : Int)) (q0c (setP ts now p).2 (j : Int))).2 = 0
 ·
  rw [if_neg (by simpa using e)] at h0 ⊢
  rw [Int.toNat_natCast]
  obtain ⟨a1, a2, a3⟩ := ht _ _ a0 h4 e
  exact ⟨rfl, mend_right hd hs (by omega) h4 a1 a2 a3, j, rfl, by omega, h4, h5, e, rfl⟩
 rw [if_pos e] at h0; exact absurd h0 e
theorem cancel_right {ky nm : ByteArray} {ts : List S49} {p : Int × List S51} (hd : q2w nm ts) (h : runB ky ts p.1 p.2 = true) (h0 : (cancelR p).1 = 0) : p.1 = 0 ∧ runB ky ts (cancelR p).2.1 (cancelR p).2.2 = true ∧ (cancelR p).2 = (3, p.2.map q0u) := by
 unfold cancelR at h0 ⊢
 by_cases e : p.1 = 0
 ·
  rw [if_neg (by simpa using e)]
  rw [e] at h
  obtain ⟨_, _, hl, hf, ha⟩ := run_parts h
  obtain ⟨f1, f2, f3⟩ := fits0.1 hf
  have ho := (q4c ts p.2).1 ha
  rw [q5c] at f2 f3
  have a0 := cancel_ok hd hl (fun j hj => (ho j hj).st) (fun j hj e => by
   have h9 := (ho j hj).wait.resolve_left (f3 j hj)
   cases hr : q1p ts p.2 j
   ·
    have := h9.2 hr; omega
   rfl)
  refine ⟨e, run_mk h (by rw [List.length_map]) (fits3 ?_ ?_ ?_) a0, rfl⟩
  ·
   rw [open_no]
   intro j hj
   rw [List.length_map] at hj
   rw [rd_map q0u hj, q2s]
   split <;> omega
  ·
   rw [q5c]
   intro j hj
   rw [List.length_map] at hj
   have := f2 j hj
   rw [rd_map q0u hj, q2s]
   split <;> omega
  obtain ⟨j, hj, e⟩ := (open_iff _).1 f1
  rw [hasB_iff]
  refine ⟨j, by rw [List.length_map]; exact hj, ?_⟩
  rw [rd_map q0u hj, q2s, if_pos e]
 rw [if_pos e] at h0; cases h0
end Go.Proofs.Ytabmkighhmchmaa.Pure
namespace Go.Proofs.Ytabmkighhmchmaa.Pure
open Go.RowKit Go.Proofs.Ytabmkighhmchmaa.X Go.YW.PrintWords Go.YW.PrintLast Go.YW.PrintMore
theorem exp_same {t : S49} {s : S51} {now later : Int} (h : s.f0 = 2) (h1 : s.f2 ≤ unt now []) (h2 : s.f2 ≤ unt later []) : expS t s later = expS t s now := by
 unfold expS expireV
 rw [if_pos (show s.f0 = 2 ∧ s.f2 ≤ unt later [] from ⟨h, h2⟩), if_pos (show s.f0 = 2 ∧ s.f2 ≤ unt now [] from ⟨h, h1⟩)]
theorem step_same {ts : List S49} {now later : Int} (h : unt now [] ≤ unt later []) {p : Int × List S51} (h0 : 0 ≤ fst_ (unt now []) p.2) : stepS ts later p = stepS ts now p := by
 obtain ⟨i, e, c⟩ := fst_cand h0
 have e2 := fst_later h p.2 h0
 rw [e] at e2
 have h1 := c.2.2
 rw [stepS_yes e, stepS_yes e2, exp_same c.2.1 h1 (by omega)]
theorem iter_later {ts : List S49} {now later : Int} (h : unt now [] ≤ unt later []) : ∀ (n : Nat) (p : Int × List S51) (m1 m2 : Nat), q3n p.2 ≤ m1 → q3n p.2 ≤ m2 → iterS ts later m1 (iterS ts now n p) = iterS ts later m2 p
 | 0, p, m1, m2, h1, h2 => (iter_more (ts := ts) (now := later) m1 m2 p h1 h2).1
 | n + 1, p, m1, m2, h1, h2 => by
  rw [iterS]
  by_cases h0 : 0 ≤ fst_ (unt now []) p.2
  ·
   have hh := step_held (ts := ts) h0
   obtain ⟨m2, rfl⟩ : ∃ q, m2 = q + 1 := ⟨m2 - 1, by omega⟩
   rw [iter_later h n (stepS ts now p) m1 m2 (by omega) (by omega), ← step_same h h0]
   rfl
  rw [stepS_no h0]
  exact iter_later h n p m1 m2 h1 h2
theorem set_later {ts : List S49} {now later : Int} (h : unt now [] ≤ unt later []) (p : Int × List S51) : setP ts later (setP ts now p) = setP ts later p := by
 unfold setP
 rw [iter_len]
 exact iter_later h _ p _ _ (held_le _) (held_le _)
theorem goes_of {ky : ByteArray} {ts : List S49} {now is : Int} {xs : List S51} (h : runB ky ts is xs = true) (h0 : (setP ts now (is, xs)).1 = 0) : is = 0 := by
 by_cases e : is = 0
 ·
  exact e
 rw [set_word (p := (is, xs)) e h] at h0; exact h0
theorem one_ok (k : Nat) (hk : 4001 ≤ k) (ky nm : ByteArray) (ts : List S49) (is : Int) (r : Int × Int × List S51) (V : Option Bool) (hd : q2w nm ts) (h : r.1 = 0 → is = 0 ∧ runB ky ts r.2.1 r.2.2 = true) :
  (if (q3v ky nm ts r).2.2.2.2.2 = 0 then ((Fa.f k (q3v ky nm ts r).1 (q3v ky nm ts r).2.1 (q3v ky nm ts r).2.2.1 (q3v ky nm ts r).2.2.2.1 (q3v ky nm ts r).2.2.2.2.1).bind fun t => (if t = true then (if is = 0 then V else none) else none)) else V) = V := by
 unfold q3v
 by_cases e : r.1 = 0
 ·
  obtain ⟨h1, h2⟩ := h e
  rw [if_pos e]
  dsimp only
  rw [if_pos rfl, q4p ky nm ts _ _ hd k hk, h2, Option.bind_some, if_pos rfl, if_pos h1]
 rw [if_neg e]
 dsimp only
 rw [if_neg e]
theorem settles_l0 (ky nm : ByteArray) (ts : List S49) (is : Int) (xs : List S51) (now a0 : Int) (hd : q2w nm ts) (h : runB ky ts is xs = true) : ∀ m i k : Nat, i + m = 4 → 4100 + m ≤ k →
  Fb.l0 k now a0 (i : Int) ky nm ts is xs = some true := by
 have ht : ∀ a1, Tells a1 → (toldP ts now a0 a1 (is, xs)).1 = 0 → is = 0 ∧ runB ky ts (toldP ts now a0 a1 (is, xs)).2.1 (toldP ts now a0 a1 (is, xs)).2.2 = true := fun a1 ha h0 =>
  ⟨goes_of h (told_right hd ha h h0).1, (told_right hd ha h h0).2.1⟩
 intro m
 induction m with
 | zero =>
  intro i k hi hk
  obtain ⟨k, rfl⟩ : ∃ q, k = q + 1 := ⟨k - 1, by omega⟩
  rw [Fb.l0, if_neg (by omega), alive_f k (by omega)]
  rfl
 | succ m ih =>
  intro i k hi hk
  obtain ⟨k, rfl⟩ : ∃ q, k = q + 1 := ⟨k - 1, by omega⟩
  rw [Fb.l0, if_pos (by omega), q4e i (by omega), ih (i + 1) k (by omega) (by omega), code_beat ky nm ts is xs now a0 hd h k (by omega), Option.bind_some, code_done ky nm ts is xs now a0 ⟨#[114]⟩ hd h k (by omega), Option.bind_some,
   code_fail ky nm ts is xs now a0 hd h k (by omega), Option.bind_some, code_cancel_f ky nm ts is xs now hd h k (by omega), Option.bind_some,
   one_ok k (by omega) ky nm ts is _ _ hd (ht _ (tells_beat now)), one_ok k (by omega) ky nm ts is _ _ hd (ht _ (tells_done _)), one_ok k (by omega) ky nm ts is _ _ hd (ht _ (tells_fail now)),
   one_ok k (by omega) ky nm ts is _ _ hd (fun h0 => ⟨goes_of h (cancel_right hd (set_right hd h) h0).1, (cancel_right hd (set_right hd h) h0).2.1⟩)]
  split
  ·
   rfl
  split
  ·
   rfl
  split <;> rfl
theorem RunSettles : Fb.Pure := by
 intro x0 a1 a2 a3 hx _ _ _
 obtain ⟨ky, ⟨nm, ts⟩, is, xs⟩ := x0
 obtain ⟨_, _, _, _, a8⟩ := hx
 refine ⟨6000, ?_⟩
 dsimp only at a8 ⊢
 obtain ⟨hl, hn⟩ := few_lens ts
 have ht : Tk (xs.take 20) := few_tk fun s hs => (a8 s hs).2.2.2.1
 unfold Fb.f F5.f
 rw [Option.bind_some]
 dsimp only
 generalize (ts.take 20).map cutT = ts at hl hn ⊢
 generalize xs.take 20 = xs at ht ⊢
 rcases right_cases ky nm ts is xs hn hl ht with ⟨h1, h2⟩ | ⟨hd, hr⟩
 ·
  rw [h2 6000 (by omega), Option.bind_some, if_neg (by decide), alive_f 6000 (by omega)]
  rfl
 obtain ⟨_, _, h3, _, _⟩ := run_parts hr
 have hu : unt (mn (mx a1 0) 1099511627776) [] ≤ unt (mn (mx a2 (mn (mx a1 0) 1099511627776)) 1099511627776) [] := by
  rw [unt_nil, unt_nil]
  unfold cnt mn mx
  repeat' split
  all_goals omega
 generalize mn (mx a2 (mn (mx a1 0) 1099511627776)) 1099511627776 = a0 at hu ⊢
 generalize mn (mx a1 0) 1099511627776 = now at hu ⊢
 have a6 := set_right (now := now) (p := (is, xs)) hd hr
 have b0 := set_right (now := a0) (p := (is, xs)) hd hr
 have a9 := set_later (ts := ts) hu (is, xs)
 have a5 := fun n => setP_len ts n (is, xs)
 have a4 : Fb.j1 5999 now a3 false ky nm ts is xs = some true := by
  rw [Fb.j1, if_neg (by decide)]
  exact settles_l0 ky nm ts is xs now a3 hd hr 4 0 5998 (by omega) (by omega)
 have a7 : Fb.j0 6000 now a3 false ky nm ts is xs = some true := by
  rw [Fb.j0, if_neg (by decide), code_lease_f ky nm ts is xs now a3 hd hr 5999 (by omega), Option.bind_some]
  unfold leaseOf
  by_cases e : (leaseR ts now a3 (setP ts now (is, xs))).1 = 0
  ·
   obtain ⟨e1, e2, _⟩ := lease_right hd a6 e
   rw [if_pos e]
   dsimp only
   rw [if_pos rfl, q4p ky nm ts _ _ hd 5999 (by omega), e2, Option.bind_some, if_pos rfl, goes_of hr e1]
   rw [goes_of hr e1] at a4
   exact a4
  rw [if_neg e]
  dsimp only
  rw [if_neg e]
  exact a4
 rw [q4p ky nm ts is xs hd 6000 (by omega), hr, Option.bind_some, if_pos rfl, q5e ky nm ts is xs now hd hr 6000 (by omega), Option.bind_some]
 dsimp only
 rw [q5e ky nm ts _ _ a0 hd a6 6000 (by omega), Option.bind_some, q5e ky nm ts is xs a0 hd hr 6000 (by omega), Option.bind_some]
 dsimp only
 rw [if_pos rfl, if_pos rfl, if_pos rfl, a9, like_ok 6000 (by omega) ky nm ts _ _ hd (by rw [a5]; exact h3), Option.bind_some, if_pos rfl, q4p ky nm ts _ _ hd 6000 (by omega), a6, Option.bind_some, if_pos rfl, q4p ky nm ts _ _ hd 6000 (by omega), b0, Option.bind_some, if_pos rfl, a7]
 by_cases e : is = 0
 ·
  rw [if_pos e]
 rw [if_neg e, set_word (p := (is, xs)) e hr, like_ok 6000 (by omega) ky nm ts is xs hd h3, Option.bind_some, Bool.not_true, a7]
end Go.Proofs.Ytabmkighhmchmaa.Pure
namespace Go.Proofs.Ytabmkighhmchmaa
open Go.RowKit Go.ChangeShapes Go.WideShapes Go.Deep Go.YW.PrintWords
def Opens {α : Type} (P : Program) (t : TypeId) (d : Kd α) (G : α → Prop) : Prop :=
 ∀ {H : Type} (enc : TypeId × Value → H) (w : World) (base : Nat) (spare : Nat → Bool) (held : Bool) (fuel : Nat) (cs : List Value) (x : DataW H × List MemPlace),
  DataW.trod enc P w base spare held fuel t cs = some x → ∃ a : α, d.K w a cs ∧ G a
theorem q3f {P : Program} {t : TypeId} {k : IntKind} (ht : P.underlying t = some (.int k)) : Opens P t (Kd.int k) (fun n => (Lit.int k n).wf = true) := by
 intro H enc w base spare held fuel cs x h
 obtain ⟨n, rfl, _, hw⟩ := DataW.trod_int ht h
 exact ⟨n, rfl, hw⟩
theorem opens_string {P : Program} {t : TypeId} (ht : P.underlying t = some .string) : Opens P t Kd.string (fun s => s.size ≤ maxLen) := by
 intro H enc w base spare held fuel cs x h
 obtain ⟨n, rfl, _, hs⟩ := DataW.trod_string ht h
 exact ⟨n, rfl, hs⟩
theorem opens_slice {α : Type} {P : Program} {t e : TypeId} {d : Kd α} {G : α → Prop} (ht : P.underlying t = some (.slice e)) (hsz : P.cellsOf e = d.sz) (hd : Opens P e d G) :
  Opens P t (Kd.slice e d) (fun l => l.length ≤ maxLen ∧ ∀ a ∈ l, G a) := by
 intro H enc w base spare held fuel cs x h
 rcases open_slice ht h with ⟨rfl, _⟩ | ⟨a, len, cap, m, n, D, Pl, rfl, _, hl, hm, hmm, _, hi⟩
 ·
  exact ⟨[], ⟨none, 0, rfl, Nat.le_refl _, rfl, by simp, fun h0 => absurd h0 (by simp)⟩, by simp, fun _ h0 => by cases h0⟩
 have hlm : len ≤ m := by rw [hmm]; split <;> omega
 have key : ∀ i, i < len → ∃ z : α × List Value, z.2.length = d.sz ∧ d.K w z.1 z.2 ∧ G z.1 ∧ ∀ j u, z.2[j]? = some u → w.cell? (a.add (i * d.sz + j)) = some u := by
  intro i hil
  obtain ⟨cs', hc, hr⟩ := hi i (by omega)
  rw [hsz] at hc
  obtain ⟨_, hcl, hat⟩ := World.cells?_some hc
  obtain ⟨y, hK, hG⟩ := hd enc w base spare held n cs' _ hr
  refine ⟨(y, cs'), hcl, hK, hG, fun j u hj => ?_⟩
  have hjl : j < cs'.length := (List.getElem?_eq_some_iff.1 hj).1
  have := hat j (by omega)
  rw [Go.Deep.add_add] at this
  rw [this]
  exact hj
 rcases Nat.eq_zero_or_pos len with rfl | hpos
 ·
  exact ⟨[], ⟨some a, cap, rfl, Nat.zero_le _, rfl, by simp, fun h0 => absurd h0 (by simp)⟩, by simp, fun _ h0 => by cases h0⟩
 obtain ⟨z0, _⟩ := key 0 hpos
 haveI : Inhabited (α × List Value) := ⟨z0⟩
 obtain ⟨f, hf⟩ := choose_lt key
 have hlen : ((List.range len).map fun i => (f i).1).length = len := by simp
 refine ⟨(List.range len).map fun i => (f i).1, ⟨some a, cap, by rw [hlen], by rw [hlen]; exact hl, ?_⟩, by rw [hlen]; omega, ?_⟩
 ·
  refine ⟨rfl, by rw [hlen]; unfold maxLen at hm; omega, fun _ => ⟨a, rfl, fun j p hj => ?_⟩⟩
  obtain ⟨hjl, hjp⟩ := List.getElem?_eq_some_iff.1 hj
  rw [hlen] at hjl
  simp at hjp
  obtain ⟨h1, h2, _, h4⟩ := hf j hjl
  exact ⟨(f j).2, h1, by rw [← hjp]; exact h2, h4⟩
 intro y hy
 obtain ⟨i, hir, rfl⟩ := List.mem_map.1 hy
 exact (hf i (List.mem_range.1 hir)).2.2.1
def OpensL {α : Type} (P : Program) (fs : List Field) (off C : Nat) (d : Kd α) (G : α → Prop) : Prop :=
 ∀ {H : Type} (enc : TypeId × Value → H) (w : World) (base : Nat) (spare : Nat → Bool) (held : Bool) (n : Nat) (cs : List Value), cs.length = C →
  (∀ f ∈ fs, ∃ y, DataW.trod enc P w base spare held n f.type ((cs.drop f.offset).take (P.cellsOf f.type)) = some y) → ∃ a : α, d.K w a (cs.drop off) ∧ G a
theorem opens_last {α : Type} {P : Program} {f : Field} {off C : Nat} {d : Kd α} {G : α → Prop} (hd : Opens P f.type d G) (ho : f.offset = off) (hc : off + P.cellsOf f.type = C) : OpensL P [f] off C d G := by
 intro H enc w base spare held n cs hl h
 obtain ⟨y, hy⟩ := h f (by simp)
 rw [ho, List.take_of_length_le (by rw [List.length_drop]; omega)] at hy
 exact hd enc w base spare held n _ _ hy
theorem q2f {α β : Type} {P : Program} {f : Field} {fs : List Field} {off off' C : Nat} {d : Kd α} {e : Kd β} {G : α → Prop} {G' : β → Prop} (hd : Opens P f.type d G) (ho : f.offset = off) (hn : off + P.cellsOf f.type = off') (he : OpensL P fs off' C e G') :
  OpensL P (f :: fs) off C (Kd.pair d e) (fun x => G x.1 ∧ G' x.2) := by
 intro H enc w base spare held n cs hl h
 obtain ⟨y, hy⟩ := h f (by simp)
 obtain ⟨b, hb, hg⟩ := he enc w base spare held n cs hl (fun g hgm => h g (by simp [hgm]))
 obtain ⟨a, ha, hga⟩ := hd enc w base spare held n _ _ hy
 refine ⟨(a, b), ⟨_, _, ?_, ha, hb⟩, hga, hg⟩
 rw [ho, ← hn, ← List.drop_drop, List.take_append_drop]
theorem q4h {α β : Type} {P : Program} {t : TypeId} {fs : Array Field} {d : Kd α} {G : α → Prop} (f : β → α) (g : α → β) (hfg : ∀ a, f (g a) = a) (ht : P.underlying t = some (.struct fs)) {C : Nat} (hC : P.cellsOf t = C)
  (hd : OpensL P fs.toList 0 C d G) : Opens P t (Kd.iso d f) (fun x => G (f x)) := by
 intro H enc w base spare held fuel cs x h
 obtain ⟨xs, n, _, _, hl, hxl, hf⟩ := DataW.trod_struct ht h
 obtain ⟨a, ha, hg⟩ := hd enc w base spare held n cs (by rw [hl, hC]) (fun z hz => by
  obtain ⟨i, hi, rfl⟩ := List.mem_iff_getElem.1 hz
  rw [Array.length_toList] at hi
  have := hf i (fs.toList[i]) (by rw [← Array.getElem?_toList]; exact List.getElem?_eq_getElem _)
  exact ⟨xs[i]'(by omega), by rw [this]; exact List.getElem?_eq_getElem _⟩)
 refine ⟨g a, ?_, ?_⟩
 ·
  show d.K w (f (g a)) cs
  rw [hfg]
  simpa using ha
 show G (f (g a))
 rw [hfg]
 exact hg
theorem opens_agg {α : Type} {H : Type} {enc : TypeId × Value → H} {P : Program} {w : World} {r : Reach} {b0 base : Nat} {spare : Nat → Bool} {held : Bool} {t : TypeId} {fs : Array Field} {v : Value} {y : DataW H} {p : List MemPlace} {d : Kd α} {G : α → Prop}
  (ho : Opens P t d G) (hs : P.underlying t = some (.struct fs)) (hv : Value.okWide P w r b0 t v) (h : DataW.Trod enc P w base spare held t v y p) : ∃ (a : α) (cs : List Value), v = .agg cs.toArray ∧ d.K w a cs ∧ G a := by
 obtain ⟨cs, rfl, _⟩ := okWide_struct hs hv
 obtain ⟨fuel, hf⟩ := h
 obtain ⟨a, hK, hG⟩ := ho _ _ _ _ _ _ _ _ hf
 exact ⟨a, cs.toList, by simp, by simpa [Value.cells] using hK, hG⟩
end Go.Proofs.Ytabmkighhmchmaa
