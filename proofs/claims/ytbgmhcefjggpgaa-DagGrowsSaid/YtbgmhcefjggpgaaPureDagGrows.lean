/- The pure statement of DagGrows: as more is done, no task that was free and is not done gets unfree; and a task that gets free needed what was done. -/
import Derived.Test.YtbgmhcefjggpgaaSayDagGrows
import Derived.Test.YtbgmhcefjggpgaaOrd
import Derived.Test.YtbgmhcefjggpgaaXx16
namespace Go.Proofs.Ytbgmhcefjggpgaa.Pure
open Go.RowKit Go.Proofs.Ytbgmhcefjggpgaa.X Go.Proofs.YtbgmhcefjggpgaaW.PrintWords Go.Proofs.YtbgmhcefjggpgaaW.PrintLast
set_option linter.unusedVariables false

theorem rd_nat' (l : List Int) (i : Nat) (h : i < l.length) : rd l (i : Int) = l[i] := by simp [rd, List.getD_eq_getElem?_getD, List.getElem?_eq_getElem h]
theorem rdT' {T : List S39} {i : Nat} (h : i < T.length) : rd_T39 T (i : Int) = T[i] := by simp [rd_T39, List.getD_eq_getElem?_getD, List.getElem?_eq_getElem h]
theorem wi' (i : Nat) (h : i < 100000) : wrap64 ((i : Int) + 1) = ((i + 1 : Nat) : Int) := by rw [w64_in _ (by omega)]; omega
theorem done_set (D : List Bool) (x : Nat) (hx : x < D.length) (z : Int) (h0 : 0 ≤ z) : doneB (D.set x true) z = (decide (z = (x : Int)) || doneB D z) := by
  obtain ⟨z, rfl⟩ : ∃ n : Nat, z = n := ⟨z.toNat, by omega⟩
  unfold doneB rdOf
  rw [Int.toNat_natCast]
  simp only [List.getD_eq_getElem?_getD, List.getElem?_set]
  by_cases e : x = z
  · subst e; simp [hx]
  · rw [if_neg e]
    have : ¬ ((z : Int) = (x : Int)) := by omega
    simp [this]
theorem free_in (D : List Bool) : ∀ (T : List S39) (i j : Nat) (hj : j < T.length), canB D T[j] (i + j) = true → ((i + j : Nat) : Int) ∈ freeV D T i
  | [], i, j, hj, _ => by simp at hj
  | t :: ts, i, 0, _, h => by
    rw [freeV, if_pos (by simpa using h)]
    simp
  | t :: ts, i, j + 1, hj, h => by
    have h1 := free_in D ts (i + 1) j (by simpa using hj) (by rw [show i + 1 + j = i + (j + 1) by omega]; simpa using h)
    rw [show i + 1 + j = i + (j + 1) by omega] at h1
    rw [freeV]
    split
    · exact List.mem_cons_of_mem _ h1
    · exact h1
theorem has_free (D : List Bool) (T : List S39) (j : Nat) (hj : j < T.length) : (freeV D T 0).contains (j : Int) = canB D T[j] j := by
  cases hc : canB D T[j] j with
  | true =>
    have := free_in D T 0 j hj (by rw [Nat.zero_add]; exact hc)
    rw [Nat.zero_add] at this
    simpa using this
  | false =>
    rw [Bool.eq_false_iff]
    intro h
    have h := List.contains_iff_mem.1 h
    obtain ⟨q, e, hq, hcq⟩ := free_mem D T 0 _ h
    obtain rfl : j = q := by omega
    rw [Nat.zero_add, hc] at hcq
    cases hcq
theorem cnt_free (D D' : List Bool) (a : List Int) (x : Nat) : ∀ (ts : List S39) (i : Nat), (∀ (j : Nat) (hj : j < ts.length), a.contains ((i + j : Nat) : Int) = canB D ts[j] (i + j) ∧ (canB D' ts[j] (i + j) && canB D ts[j] (i + j)) = (canB D ts[j] (i + j) && !decide (i + j = x))) →
    (freeV D' ts i).countP (fun y => a.contains y) + (freeV D ts i).countP (fun y => y == (x : Int)) = (freeV D ts i).length
  | [], i, _ => rfl
  | t :: ts, i, h => by
    have ih := cnt_free D D' a x ts (i + 1) (fun j hj => by
      have := h (j + 1) (by simpa using hj)
      rw [show i + (j + 1) = i + 1 + j by omega] at this
      simpa using this)
    have h0 := h 0 (by simp)
    simp only [Nat.add_zero, List.getElem_cons_zero] at h0
    obtain ⟨h1, h2⟩ := h0
    have ex : ((i : Int) == (x : Int)) = decide (i = x) := by
      by_cases e : i = x
      · subst e; simp
      · have : ¬ ((i : Int) = (x : Int)) := by omega
        simp [e, this]
    rw [freeV, freeV]
    cases hc : canB D t i <;> cases hc' : canB D' t i <;> rw [hc, hc'] at h2 <;> rw [hc] at h1 <;> by_cases e : i = x <;> simp [e] at h2 <;> simp [List.countP_cons, h1, ex, e] <;> simp_all <;> omega
theorem cnt_one (D : List Bool) (x : Nat) : ∀ (ts : List S39) (i : Nat), (freeV D ts i).countP (fun y => y == (x : Int)) = if (x : Int) ∈ freeV D ts i then 1 else 0
  | [], i => by simp [freeV]
  | t :: ts, i => by
    have ih := cnt_one D x ts (i + 1)
    rw [freeV]
    split
    · rw [List.countP_cons, ih]
      by_cases e : i = x
      · subst e
        have hn : ((i : Nat) : Int) ∉ freeV D ts (i + 1) := by
          intro h
          obtain ⟨j, e, _⟩ := free_mem D ts (i + 1) _ h
          omega
        simp [hn]
      · have : ¬ ((i : Int) = (x : Int)) := by omega
        have h2 : ¬ ((x : Int) = (i : Int)) := by omega
        simp [this, h2]
    · exact ih
theorem grow_l2 (nm : ByteArray) (T : List S39) (a : List Int) (x n len jm : Int) (m : List Int) (L : List Int) (hL : L.length ≤ 1000) : ∀ q j b k, j + q = L.length → penelopelaw16_DagGrows.l2 (k + q + 1) a x 777 n b m len jm L (L.length : Int) (j : Int) nm T = if (b || (L.drop j).contains x) = true then penelopelaw16_DagGrows.l1 k a x 777 n m len (wrap64 (jm + 1)) nm T else none := by
  intro q
  induction q with
  | zero =>
    intro j b k hj
    rw [Nat.add_zero, penelopelaw16_DagGrows.l2, if_neg (by omega), List.drop_eq_nil_of_le (by omega)]
    simp
  | succ q ih =>
    intro j b k hj
    rw [show k + (q + 1) + 1 = (k + q + 1) + 1 by omega, penelopelaw16_DagGrows.l2, if_pos (by omega), if_pos (by omega), if_pos (by omega), wi' j (by omega), rd_nat' L j (by omega), List.drop_eq_getElem_cons (show j < L.length by omega), List.contains_cons]
    cases b with
    | true => rw [if_pos rfl, ih (j + 1) true k (by omega)]; simp
    | false =>
      rw [if_neg (by simp), ih (j + 1) _ k (by omega), Bool.false_or, show (x == L[j]) = (L[j] == x) from Bool.beq_comm]
theorem grow_l1 (nm : ByteArray) (T : List S39) (a : List Int) (x : Int) (m : List Int) (hm : m.length ≤ 1000) (hT : ∀ t ∈ T, t.f0.length ≤ 20) (hl : T.length ≤ 20) : ∀ q j k (n : Nat), j + q = m.length → 30 * q + 200 ≤ k → n + q ≤ 2000 →
    (∀ y ∈ m.drop j, a.contains y = false → ∃ i : Nat, y = i ∧ ∃ h : i < T.length, x ∈ (T[i]).f0) → penelopelaw16_DagGrows.l1 k a x 777 (n : Int) m (m.length : Int) (j : Int) nm T = some (((n + (m.drop j).countP (fun y => a.contains y) : Nat) : Int) == wrap64 ((a.length : Int) - 1)) := by
  intro q
  induction q with
  | zero =>
    intro j k n hj hk hn hy
    obtain ⟨k, rfl⟩ : ∃ z, k = z + 1 := ⟨k - 1, by omega⟩
    rw [penelopelaw16_DagGrows.l1, if_neg (by omega), alive_f k (by omega), Option.bind_some, if_pos rfl, List.drop_eq_nil_of_le (by omega)]
    simp
  | succ q ih =>
    intro j k n hj hk hn hy
    obtain ⟨k, rfl⟩ : ∃ z, k = z + 1 := ⟨k - 1, by omega⟩
    rw [List.drop_eq_getElem_cons (show j < m.length by omega)] at hy ⊢
    rw [penelopelaw16_DagGrows.l1, if_pos (by omega), if_pos (by omega), if_pos (by omega), rd_nat' m j (by omega), wi' j (by omega), List.countP_cons]
    have hr := fun y h => hy y (List.mem_cons_of_mem _ h)
    cases hc : a.contains m[j] with
    | true =>
      rw [if_pos rfl, wi' n (by omega), ih (j + 1) k (n + 1) (by omega) (by omega) (by omega) hr, if_pos rfl]
      congr 3
      omega
    | false =>
      obtain ⟨i, hi, hiT, hx⟩ := hy m[j] (.head _) hc
      have hti := hT T[i] (List.getElem_mem hiT)
      obtain ⟨k, rfl⟩ : ∃ z, k = (z + T[i].f0.length + 1) + 1 := ⟨k - T[i].f0.length - 2, by omega⟩
      rw [if_neg (by simp), hi, if_neg (by omega), penelopelaw16_DagGrows.j4, if_neg (by simp; omega), if_pos (by omega), if_pos (by omega), rdT' hiT]
      have e := grow_l2 nm T a x (n : Int) (m.length : Int) (j : Int) m T[i].f0 (by omega) T[i].f0.length 0 false k (by omega)
      rw [show ((0 : Nat) : Int) = 0 from rfl] at e
      rw [e, List.drop_zero, Bool.false_or, if_pos (List.contains_iff_mem.2 hx), wi' j (by omega), ih (j + 1) k n (by omega) (by omega) (by omega) hr, if_neg (by simp)]
      congr 3
theorem grow_l0 (nm : ByteArray) (T : List S39) (a : List Int) (x : Int) (m : List Int) (ha : a.length ≤ 1000) : ∀ q j k, j + q = a.length → penelopelaw16_DagGrows.l0 (k + q + 1) a x m 777 a (a.length : Int) (j : Int) nm T = penelopelaw16_DagGrows.l1 k a x 777 0 m (m.length : Int) 0 nm T := by
  intro q
  induction q with
  | zero =>
    intro j k hj
    rw [Nat.add_zero, penelopelaw16_DagGrows.l0, if_neg (by omega)]
  | succ q ih =>
    intro j k hj
    rw [show k + (q + 1) + 1 = (k + q + 1) + 1 by omega, penelopelaw16_DagGrows.l0, if_pos (by omega), if_pos (by omega), if_pos (by omega), wi' j (by omega)]
    exact ih (j + 1) k (by omega)
theorem DagGrows : penelopelaw16_DagGrows.Pure := by
  intro x0 D a2 _ _ _
  obtain ⟨nm, T⟩ := x0
  simp only
  refine ⟨5000, ?_⟩
  obtain ⟨hl, hn⟩ := few_ok T
  unfold penelopelaw16_DagGrows.f penelopelaw16_few.f
  rw [Option.bind_some]
  simp only
  generalize (T.take 20).map cutT = T at *
  obtain ⟨R, ord, hR, hz⟩ := right_ex nm T hn hl
  have hbad : ∀ e : Int, e ≠ 0 → penelopelaw16_DagGrows.j0 5000 D a2 [] e true nm T = some true := by
    intro e he
    rw [penelopelaw16_DagGrows.j0, if_pos rfl, alive_f 4999 (by omega), Option.bind_some, if_pos rfl, if_neg he]
  have hF : ∀ k (E : List Bool), 100 ≤ k → dag_Free.f k nm T E = if R = 0 then (if (E.length : Int) = (T.length : Int) then ((dag_free.f k T E).bind fun t143 => (some (t143, 0))) else (some (([] : List Int), 1))) else (some (([] : List Int), R)) := by
    intro k E hk
    unfold dag_Free.f
    rw [hR k hk, Option.bind_some]
  rw [hF 5000 D (by omega)]
  by_cases h : R = 0
  case neg =>
    rw [if_neg h, Option.bind_some]
    simp only
    rw [if_neg h]
    exact hbad R h
  obtain ⟨hT, h1, h10, _, _, _⟩ := hz h
  rw [if_pos h]
  by_cases hd : D.length = T.length
  case neg =>
    rw [if_neg (by omega), Option.bind_some]
    simp only
    rw [if_neg (by simp)]
    exact hbad 1 (by simp)
  rw [if_pos (by omega), free_f 5000 T D hT hd hl, Option.bind_some, Option.bind_some]
  simp only
  rw [if_pos trivial]
  have hlen : (freeV D T 0).length ≤ 20 := by
    have : ∀ (ts : List S39) (i : Nat), (freeV D ts i).length ≤ ts.length := by
      intro ts
      induction ts with
      | nil => intro i; simp [freeV]
      | cons t ts ih => intro i; rw [freeV]; split <;> simp <;> have := ih (i + 1) <;> omega
    have := this T 0
    omega
  have hmem := free_mem D T 0
  have hhas := has_free D T
  have hcnt := cnt_free D
  have hone := cnt_one D
  generalize ha : freeV D T 0 = a at *
  by_cases h0 : a.length = 0
  · rw [h0, show (((0 : Nat) : Int) == 0) = true from rfl, penelopelaw16_DagGrows.j0, if_pos rfl, alive_f 4999 (by omega), Option.bind_some, if_pos rfl, if_pos rfl, hd]
    simp
  have hb : ((a.length : Int) == 0) = false := beq_eq_false_iff_ne.mpr (by omega)
  rw [hb, penelopelaw16_DagGrows.j0, if_neg (by simp), if_neg (by omega)]
  have b1 := Int.emod_nonneg (a := Int.tmod a2 a.length) (b := a.length) (by omega)
  have b2 : -(a.length : Int) < Int.tmod a2 a.length ∧ Int.tmod a2 a.length < a.length := by
    have c1 := Int.lt_tmod_of_pos a2 (b := (a.length : Int)) (by omega)
    have c2 := Int.tmod_lt_of_pos a2 (b := (a.length : Int)) (by omega)
    omega
  have hw : wrap64 (Int.tmod a2 a.length + a.length) = Int.tmod a2 a.length + a.length := w64_in _ (by omega)
  rw [hw]
  have i0 : 0 ≤ Int.tmod (Int.tmod a2 a.length + a.length) a.length := Int.tmod_nonneg _ (by omega)
  have i1 : Int.tmod (Int.tmod a2 a.length + a.length) a.length < a.length := Int.tmod_lt_of_pos _ (by omega)
  generalize Int.tmod (Int.tmod a2 a.length + a.length) a.length = i at *
  obtain ⟨i, rfl⟩ : ∃ n : Nat, i = n := ⟨i.toNat, by omega⟩
  have hi : i < a.length := by omega
  obtain ⟨x, hx, hxT, hcx⟩ := hmem a[i] (List.getElem_mem hi)
  rw [Nat.zero_add] at hx hcx
  have hxin : (x : Int) ∈ a := by rw [← hx]; exact List.getElem_mem hi
  have hDx : doneB D (x : Int) = false := by
    unfold canB at hcx
    simp only [Bool.and_eq_true, Bool.not_eq_true'] at hcx
    exact hcx.1
  rw [if_pos (by omega), if_pos (by omega), Option.bind_some, if_pos (by simp; omega), Option.bind_some, rd_nat' a i hi, hx, List.nil_append, if_neg (by omega), if_neg (by omega), if_pos (by omega), if_pos (by omega),
    show rdOf false D (x : Int) = false from hDx, penelopelaw16_DagGrows.j1, if_neg (by simp), if_pos (by omega), if_pos (by omega), Int.toNat_natCast, hF 4998 (D.set x true) (by omega), if_pos h, if_pos (by rw [List.length_set]; omega), free_f 4998 T (D.set x true) hT (by rw [List.length_set]; exact hd) hl, Option.bind_some, Option.bind_some]
  simp only
  have hds := fun z h0 => done_set D x (by omega) z h0
  have hlm : (freeV (D.set x true) T 0).length ≤ 20 := by
    have : ∀ (ts : List S39) (i : Nat), (freeV (D.set x true) ts i).length ≤ ts.length := by
      intro ts
      induction ts with
      | nil => intro i; simp [freeV]
      | cons t ts ih => intro i; rw [freeV]; split <;> simp <;> have := ih (i + 1) <;> omega
    have := this T 0
    omega
  have hmm := free_mem (D.set x true) T 0
  have hc := hcnt (D.set x true) a x T 0 (fun j hj => by
    rw [Nat.zero_add]
    refine ⟨hhas j hj, ?_⟩
    cases hcj : canB D T[j] j with
    | false => simp
    | true =>
      have hcj2 := hcj
      unfold canB at hcj2 ⊢
      simp only [Bool.and_eq_true, Bool.not_eq_true', List.all_eq_true] at hcj2
      rw [hds (j : Int) (by omega), hcj2.1]
      have hall : T[j].f0.all (doneB (D.set x true)) = true := by
        rw [List.all_eq_true]
        intro z hz
        rw [hds z ((hT T[j] (List.getElem_mem hj)).2 z hz).1, hcj2.2 z hz]
        simp
      rw [hall]
      by_cases e : j = x
      · subst e; simp
      · have : ¬ ((j : Int) = (x : Int)) := by omega
        simp [e, this])
  rw [ha] at hc
  have ho := hone x T 0
  rw [ha, if_pos hxin] at ho
  rw [ho] at hc
  rw [if_pos trivial, if_pos ⟨by omega, fun y hy => by obtain ⟨j, e, hj, _⟩ := hmem y hy; omega, fun y hy => by obtain ⟨j, e, hj, _⟩ := hmm y hy; omega⟩]
  have e0 := grow_l0 nm T a (x : Int) (freeV (D.set x true) T 0) (by omega) a.length 0 (4997 - a.length) (by omega)
  rw [show 4997 - a.length + a.length + 1 = 4998 by omega, show ((0 : Nat) : Int) = 0 from rfl] at e0
  rw [e0]
  have e1 := grow_l1 nm T a (x : Int) (freeV (D.set x true) T 0) (by omega) hn hl (freeV (D.set x true) T 0).length 0 (4997 - a.length) 0 (by omega) (by omega) (by omega) (by
    intro y hy hno
    rw [List.drop_zero] at hy
    obtain ⟨j, e, hj, hcj⟩ := hmm y hy
    rw [Nat.zero_add] at e hcj
    refine ⟨j, e, hj, ?_⟩
    rw [e, hhas j hj] at hno
    unfold canB at hcj hno
    simp only [Bool.and_eq_true, Bool.not_eq_true', List.all_eq_true] at hcj
    rw [hds (j : Int) (by omega)] at hcj
    have hDj : doneB D (j : Int) = false := by
      have := hcj.1
      simp only [Bool.or_eq_false_iff] at this
      exact this.2
    rw [hDj] at hno
    simp only [Bool.not_false, Bool.true_and, List.all_eq_false] at hno
    obtain ⟨z, hz, hDz⟩ := hno
    have hz2 := hcj.2 z hz
    rw [hds z ((hT T[j] (List.getElem_mem hj)).2 z hz).1] at hz2
    rcases Bool.or_eq_true_iff.1 hz2 with h3 | h3
    · rw [← of_decide_eq_true h3]; exact hz
    · exact absurd h3 hDz)
  rw [show ((0 : Nat) : Int) = 0 from rfl, List.drop_zero] at e1
  rw [e1, w64_in _ (by omega)]
  congr 1
  rw [beq_iff_eq]
  omega
end Go.Proofs.Ytbgmhcefjggpgaa.Pure
