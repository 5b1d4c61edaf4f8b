/- Words and walks for the law RunEnds, joined and made small by a program of mine. -/
import Derived.Test.YtabmkighhmchmaaD9
import Derived.Test.YtabmkighhmchmaaD10
import Derived.Deep.Slices
import Derived.Deep.Fields
import Derived.ChangeSame
import Derived.WalkKit
import Derived.Test.YtabmkighhmchmaaD2
namespace Go.Proofs.Ytabmkighhmchmaa.Pure
open Go.RowKit Go.Proofs.Ytabmkighhmchmaa.X Go.Proofs.YtabmkighhmchmaaW.PrintWords Go.Proofs.YtabmkighhmchmaaW.PrintLast Go.Proofs.YtabmkighhmchmaaW.PrintMore
theorem wL (i : Nat) (h : i < 9223372036854775807) : wrap64 ((i : Int) + 1) = ((i + 1 : Nat) : Int) := by rw [w64_in _ (by omega)]; omega
theorem task_w (n : Int) (t : S49) (hl : t.f0.length ≤ 9223372036854775807) : ∀ m i k a0, i + m = t.f0.length → m + 1 ≤ k →
  Fw.l0 k n a0 t.f0 (t.f0.length : Int) (i : Int) t.f0 t.f1 t.f2 t.f3 = some (ascB n a0 (t.f0.drop i) && numsB t) := by
 intro m
 induction m with
 | zero =>
  intro i k a0 hi hk
  obtain ⟨k, rfl⟩ : ∃ q, k = q + 1 := ⟨k - 1, by omega⟩
  rw [Fw.l0, if_neg (by omega), List.drop_eq_nil_of_le (by omega), ascB, Bool.true_and]
  unfold numsB
  by_cases h1 : 1 ≤ t.f1
  case neg => rw [if_neg (by omega)]; simp [h1]
  rw [if_pos (by omega)]
  by_cases h2 : t.f1 ≤ 8
  case neg => rw [if_neg (by omega)]; simp [h2]
  rw [if_pos (by omega)]
  by_cases h3 : 0 ≤ t.f2
  case neg => rw [if_neg (by omega)]; simp [h3]
  rw [if_pos (by omega)]
  by_cases h4 : t.f2 ≤ 1048576
  case neg => rw [if_neg (by omega)]; simp [h4]
  rw [if_pos (by omega)]
  by_cases h5 : 1 ≤ t.f3
  case neg => rw [if_neg (by omega)]; simp [h5]
  rw [if_pos (by omega)]
  simp [h1, h2, h3, h4, h5]
 | succ m ih =>
  intro i k a0 hi hk
  obtain ⟨k, rfl⟩ : ∃ q, k = q + 1 := ⟨k - 1, by omega⟩
  rw [Fw.l0, if_pos (by omega), if_pos (by omega), if_pos (by omega), rd_nat _ _ (by omega), show wrap64 ((i : Int) + 1) = ((i + 1 : Nat) : Int) by rw [w64_in _ (by omega)]; omega, ih (i + 1) k _ (by omega) (by omega), List.drop_eq_getElem_cons (show i < t.f0.length by omega), ascB]
  generalize t.f0[i]'(by omega) = x
  by_cases h1 : a0 < x
  case neg => rw [if_pos (by omega)]; simp [h1]
  rw [if_neg (by omega)]
  by_cases h2 : x < n
  case neg => rw [if_pos (by omega)]; simp [h2]
  rw [if_neg (by omega)]
  simp [h1, h2]
theorem shaped_w (n : Int) (T : List S49) (a1 a2 : Int) (t : S49) (hl : t.f0.length ≤ 9223372036854775807) : ∀ m a k a0, a + m = t.f0.length → (a = 0 ∧ a0 = -1 ∨ 0 < a ∧ 0 ≤ a0 ∧ ∃ h : a - 1 < t.f0.length, t.f0[a - 1] = a0) →
  Fd.l1 (k + m + 1) n T a1 a2 t.f0 (t.f0.length : Int) (a : Int) t.f0 t.f1 t.f2 t.f3 = if (ascB n a0 (t.f0.drop a) && numsB t) = true then Fd.l0 k n T a1 (wrap64 (a2 + 1)) else some false := by
 intro m
 induction m with
 | zero =>
  intro a k a0 ha hp
  rw [Nat.add_zero, Fd.l1, if_neg (by omega), List.drop_eq_nil_of_le (by omega), ascB, Bool.true_and]
  unfold numsB
  by_cases h1 : 1 ≤ t.f1
  case neg => rw [if_pos (by omega), if_neg (by simp [h1])]
  rw [if_neg (by omega)]
  by_cases h2 : t.f1 ≤ 8
  case neg => rw [if_pos (by omega), if_neg (by simp [h2])]
  rw [if_neg (by omega)]
  by_cases h3 : 0 ≤ t.f2
  case neg => rw [if_pos (by omega), if_neg (by simp [h3])]
  rw [if_neg (by omega)]
  by_cases h4 : t.f2 ≤ 1048576
  case neg => rw [if_pos (by omega), if_neg (by simp [h4])]
  rw [if_neg (by omega)]
  by_cases h5 : 1 ≤ t.f3
  case neg => rw [if_pos (by omega), if_neg (by simp [h5])]
  rw [if_neg (by omega)]
  by_cases h6 : t.f3 ≤ 1048576
  case neg => rw [if_pos (by omega), if_neg (by simp [h6])]
  rw [if_neg (by omega), if_pos (by simp [h1, h2, h3, h4, h5, h6])]
 | succ m ih =>
  intro a k a0 ha hp
  have hd : t.f0.drop a = t.f0[a]'(by omega) :: t.f0.drop (a + 1) := List.drop_eq_getElem_cons (by omega)
  rw [show k + (m + 1) + 1 = (k + m + 1) + 1 by omega, Fd.l1, if_pos (by omega), if_pos (by omega), if_pos (by omega), rd_nat _ _ (by omega), hd, ascB]
  have hI := fun (hx : 0 ≤ t.f0[a]'(by omega)) => ih (a + 1) k (t.f0[a]'(by omega)) (by omega) (.inr ⟨by omega, hx, by simp; omega, by simp⟩)
  rw [wL a (by omega)]
  by_cases h1 : t.f0[a]'(by omega) < 0
  ·
   rw [if_pos h1, if_neg]
   have : ¬ a0 < t.f0[a]'(by omega) := by rcases hp with ⟨_, e⟩ | ⟨_, e, _⟩ <;> omega
   simp [this]
  rw [if_neg h1]
  by_cases h2 : t.f0[a]'(by omega) ≥ n
  ·
   rw [if_pos h2, if_neg]
   have : ¬ t.f0[a]'(by omega) < n := by omega
   simp [this]
  rw [if_neg h2, hI (by omega)]
  rcases hp with ⟨e1, e2⟩ | ⟨e1, e2, e3, e4⟩
  ·
   rw [if_neg (by omega)]
   have g1 : a0 < t.f0[a]'(by omega) := by omega
   have g2 : t.f0[a]'(by omega) < n := by omega
   simp only [g1, g2, decide_true, Bool.true_and]
  have ew : wrap64 ((a : Int) - 1) = ((a - 1 : Nat) : Int) := by rw [w64_in _ (by omega)]; omega
  rw [if_pos (by omega), ew, if_pos (by omega), if_pos (by omega), rd_nat _ _ e3, e4]
  have g2 : t.f0[a]'(by omega) < n := by omega
  by_cases g1 : a0 < t.f0[a]'(by omega)
  ·
   rw [if_neg (by omega)]
   simp only [g1, g2, decide_true, Bool.true_and]
  rw [if_pos (by omega), if_neg (by simp [g1])]
theorem task_wide (n : Int) (t : S49) (M : Nat) (hl : t.f0.length ≤ M) (hM : M ≤ 9223372036854775807) (k : Nat) (hk : M + 2 ≤ k) : Fw.f k t.f0 t.f1 t.f2 t.f3 n = some (taskB n t) := by
 unfold Fw.f taskB
 rw [show (0 : Int) = ((0 : Nat) : Int) from rfl, task_w n t (by omega) t.f0.length 0 k (-1) (by omega) (by omega), List.drop_zero]
theorem anyT_wide (n : Int) (M : Nat) (hM : M ≤ 9223372036854775807) (k : Nat) (hk : M + 2 ≤ k) : ∀ l : List S49, (∀ t ∈ l, t.f0.length ≤ M) → anyT k n l = some (!(l.all (taskB n)))
 | [], _ => rfl
 | t :: ts, h => by
  rw [anyT, task_wide n t M (h t (List.mem_cons_self ..)) hM k hk, Option.bind_some, anyT_wide n M hM k hk ts (fun y hy => h y (List.mem_cons_of_mem _ hy)), List.all_cons]
  cases taskB n t <;> simp
theorem shaped_wide (n : Int) (T : List S49) (M : Nat) (hM : M ≤ 9223372036854775807) (hT : ∀ t ∈ T, t.f0.length ≤ M) (hl : T.length ≤ 20) : ∀ m i k, i + m = T.length → (M + 3) * m + 1 ≤ k → Fd.l0 k n T (T.length : Int) (i : Int) = some ((T.drop i).all (taskB n)) := by
 intro m
 induction m with
 | zero =>
  intro i k hi hk
  obtain ⟨k, rfl⟩ : ∃ q, k = q + 1 := ⟨k - 1, by omega⟩
  rw [Fd.l0, if_neg (by omega), List.drop_eq_nil_of_le (by omega)]
  rfl
 | succ m ih =>
  intro i k hi hk
  have a0 : i < T.length := by omega
  have ht := hT T[i] (List.getElem_mem a0)
  rw [Nat.mul_add] at hk
  obtain ⟨k, rfl⟩ : ∃ q, k = (q + T[i].f0.length + 1) + 1 := ⟨k - T[i].f0.length - 2, by omega⟩
  rw [Fd.l0, if_pos (by omega), if_pos (by omega), if_pos (by omega), rdT (by omega), show (0 : Int) = ((0 : Nat) : Int) from rfl, shaped_w n T _ _ T[i] (by omega) T[i].f0.length 0 k (-1) (by omega) (.inl ⟨rfl, rfl⟩), List.drop_zero, wi i (by omega), ih (i + 1) k (by omega) (by omega), List.drop_eq_getElem_cons a0, List.all_cons]
  unfold taskB
  cases ascB n (-1) T[i].f0 && numsB T[i] <;> simp
theorem dag_wide (nm : ByteArray) (ts : List S49) (M : Nat) (hM : M ≤ 9223372036854775807) (hn : ∀ t ∈ ts, t.f0.length ≤ M) :
  (∃ R, R ≠ 0 ∧ (∀ k, 11 * M + 5000 ≤ k → Fu.f k nm ts = some R) ∧ ∀ k, 11 * M + 5000 ≤ k → Fh.f k nm ts = some R) ∨ DagOk nm ts := by
 by_cases h1 : 10 < ts.length
 ·
  refine .inl ⟨2, by decide, fun k _ => ?_, fun k _ => ?_⟩
  ·
   unfold Fu.f; rw [if_pos h1]
  unfold Fh.f; rw [if_pos (by omega)]
 by_cases a1 : ∀ t ∈ ts, t.f0.length ≤ 20
 ·
  rcases dag_cases nm ts a1 (by omega) with ⟨R, h0, hc, hr⟩ | h
  ·
   exact .inl ⟨R, h0, fun k hk => hc k (by omega), fun k hk => hr k (by omega)⟩
  exact .inr h
 have a0 : ts.all (taskB (ts.length : Int)) = false := by
  cases hb : ts.all (taskB (ts.length : Int))
  ·
   rfl
  refine absurd (fun t ht => ?_) a1
  have := List.all_eq_true.1 hb t ht
  unfold taskB at this
  simp only [Bool.and_eq_true] at this
  have := asc_len this.1
  omega
 refine .inl ⟨1, by decide, fun k hk => ?_, fun k hk => ?_⟩
 ·
  unfold Fu.f
  rw [if_neg h1, anyT_wide _ M hM k (by omega) ts hn, a0]
  repeat' split
  all_goals first | rfl | skip
 obtain ⟨k, rfl⟩ : ∃ q, k = q + 1 := ⟨k - 1, by omega⟩
 have hj : ∀ b, Fd.j0 (k + 1) (ts.length : Int) b nm ts = some false := by
  intro b
  rw [Fd.j0]
  cases b
  ·
   have a2 : (M + 3) * ts.length ≤ (M + 3) * 10 := Nat.mul_le_mul_left _ (by omega)
   have := shaped_wide (ts.length : Int) ts M hM hn (by omega) ts.length 0 k (by omega) (by omega)
   rw [if_neg (by decide)]
   refine this.trans ?_
   rw [List.drop_zero, a0]
  rw [if_pos rfl]
 unfold Fh.f Fd.f
 rw [if_neg (by omega), hj, hj]
 repeat' split
 all_goals first | rfl | contradiction
def sumTo (f : Nat → Int) : Nat → Int
 | 0 => 0
 | q + 1 => sumTo f q + f q
theorem sum_congr {f g : Nat → Int} : ∀ n, (∀ i, i < n → f i = g i) → sumTo f n = sumTo g n
 | 0, _ => rfl
 | n + 1, h => by rw [sumTo, sumTo, sum_congr n (fun i hi => h i (by omega)), h n (by omega)]
theorem sum_set {f g : Nat → Int} {j : Nat} {a : Int} (h : ∀ i, i ≠ j → g i = f i) (hj : g j = f j + a) : ∀ n, j < n → sumTo g n = sumTo f n + a
 | 0, h' => by omega
 | n + 1, h' => by
  rw [sumTo, sumTo]
  by_cases e : j = n
  ·
   subst e
   rw [sum_congr j (fun i hi => h i (by omega)), hj]
   omega
  rw [sum_set h hj n (by omega), h n (fun e2 => e e2.symm)]
  omega
theorem sum_le {f g : Nat → Int} : ∀ n, (∀ i, i < n → f i ≤ g i) → sumTo f n ≤ sumTo g n
 | 0, _ => Int.le_refl _
 | n + 1, h => by
  have h1 := sum_le n (fun i hi => h i (by omega))
  have h2 := h n (by omega)
  rw [sumTo, sumTo]
  omega
theorem sum_lt {f g : Nat → Int} {j : Nat} (hj : f j < g j) : ∀ n, j < n → (∀ i, i < n → f i ≤ g i) → sumTo f n < sumTo g n
 | 0, h', _ => by omega
 | n + 1, h', h => by
  rw [sumTo, sumTo]
  have h2 := h n (by omega)
  by_cases e : j = n
  ·
   subst e
   have h1 := sum_le j (fun i hi => h i (by omega))
   omega
  have h1 := sum_lt hj n (by omega) (fun i hi => h i (by omega))
  omega
def tS (xs : List S51) : Int := sumTo (fun i => (rd_T51 xs (i : Int)).f1) xs.length
def mostS (ts : List S49) : Int := sumTo (fun i => (rd_T49 ts (i : Int)).f1) ts.length
theorem tS_mend {ts : List S49} {is : Int} {xs : List S51} (hw : Wf ts xs.length) : tS (mendP ts is xs).2 = tS xs := by
 unfold tS
 rw [mendP_len]
 refine sum_congr _ fun i hi => ?_
 unfold mendP
 split
 ·
  dsimp only
  rw [rd_map cancelS hi, cancelS_tr]
 dsimp only
 rw [rd_ready hw _ i (Nat.le_refl _)]
 split
 ·
  rw [readyS_tr]
 rfl
theorem tS_set {xs : List S51} {j : Nat} (hj : j < xs.length) (s : S51) (h : s.f1 = (rd_T51 xs (j : Int)).f1 + 1) : tS (xs.set j s) = tS xs + 1 := by
 unfold tS
 rw [List.length_set]
 exact sum_set (fun i hi => by rw [rd_set hj, if_neg (fun e => hi e.symm)]) (by rw [rd_set hj, if_pos rfl, h]) _ hj
theorem newZ (n j : Nat) (hj : j < n) : rd_T51 (List.replicate n z51) (j : Int) = z51 := by
 rw [rd51_nat _ j (by rw [List.length_replicate]; exact hj), List.getElem_replicate]
theorem new_state {ts : List S49} (hw : Wf ts ts.length) (j : Nat) (hj : j < ts.length) : rd_T51 (readyTo ts (List.replicate ts.length z51) (List.replicate ts.length z51).length) (j : Int) = if readyB ts (List.replicate ts.length z51) j = true then ⟨1, 0, 0, 0, ⟨#[]⟩⟩ else z51 := by
 rw [rd_ready (by rw [List.length_replicate]; exact hw) _ j (Nat.le_refl _), newZ _ j hj, List.length_replicate]
 by_cases hr : readyB ts (List.replicate ts.length z51) j = true
 ·
  rw [if_pos ⟨hj, hr⟩, if_pos hr]; rfl
 rw [if_neg (fun e => hr e.2), if_neg hr]
theorem z51_right (t : S49) (h : 1 ≤ t.f1) (is : Int) (hi : is = 0 ∨ is = 1) : RightS t ⟨is, 0, 0, 0, ⟨#[]⟩⟩ := by
 unfold RightS RightP StandsP
 dsimp only
 exact ⟨⟨by omega, by omega, by omega, by omega, by omega, by omega, by omega, by omega, by omega, by decide, .inl rfl⟩, by omega, by omega, by omega, by omega, by omega, by omega⟩
theorem new_right {ky nm : ByteArray} {ts : List S49} (hd : DagOk nm ts) (h1 : 1 ≤ ky.size) (h2 : ky.size ≤ 16) : newP ts = (0, readyTo ts (List.replicate ts.length z51) (List.replicate ts.length z51).length) ∧ runB ky ts 0 (newP ts).2 = true := by
 have hw := hd.wf rfl
 have a3 := hd.one
 have hz := new_state hw
 have a2 : hasB 4 (List.replicate ts.length z51) = false := by
  rw [hasB_no]
  intro j hj
  rw [List.length_replicate] at hj
  rw [newZ _ j hj]
  decide
 have hl : (readyTo ts (List.replicate ts.length z51) (List.replicate ts.length z51).length).length = ts.length := by rw [readyTo_len, List.length_replicate]
 have hf : ∀ j : Nat, j < ts.length → (rd_T51 (readyTo ts (List.replicate ts.length z51) (List.replicate ts.length z51).length) (j : Int)).f0 = 0 ∨ (rd_T51 (readyTo ts (List.replicate ts.length z51) (List.replicate ts.length z51).length) (j : Int)).f0 = 1 := by
  intro j hj
  rw [hz j hj]
  split
  ·
   exact .inr rfl
  exact .inl rfl
 have a1 : allB 3 (readyTo ts (List.replicate ts.length z51) (List.replicate ts.length z51).length) = false := by
  cases hb : allB 3 (readyTo ts (List.replicate ts.length z51) (List.replicate ts.length z51).length)
  ·
   rfl
  have hm : rd_T51 (readyTo ts (List.replicate ts.length z51) (List.replicate ts.length z51).length) ((0 : Nat) : Int) ∈ readyTo ts (List.replicate ts.length z51) (List.replicate ts.length z51).length := rd51_mem (by omega) (by omega)
  have := List.all_eq_true.1 hb _ hm
  rw [decide_eq_true_eq] at this
  have := hf 0 (by omega)
  omega
 have a0 : newP ts = (0, readyTo ts (List.replicate ts.length z51) (List.replicate ts.length z51).length) := by
  unfold newP
  rw [mendP_goes a2, a1, if_neg (by decide)]
 refine ⟨a0, ?_⟩
 rw [a0]
 dsimp only
 unfold runB
 simp only [Bool.and_eq_true, decide_eq_true_eq]
 refine ⟨h1, h2, hl, fits0.2 ⟨(open_iff _).2 ⟨0, by omega, ?_⟩, ?_, ?_⟩, (allOk_iff _ _).2 fun j hj => ?_⟩
 ·
  have := hf 0 (by omega)
  omega
 ·
  rw [hasB_no]
  intro j hj
  have := hf j (by omega)
  omega
 ·
  rw [hasB_no]
  intro j hj
  have := hf j (by omega)
  omega
 rw [hl] at hj
 have hc : readyB ts (readyTo ts (List.replicate ts.length z51) (List.replicate ts.length z51).length) j = readyB ts (List.replicate ts.length z51) j := readyB_congr hw hj fun x hx => by
  have := hf x hx
  rw [newZ _ x hx]
  constructor
  ·
   intro e; omega
  intro e; cases e
 have ht := (hd.task hj).2.2.1
 refine ⟨?_, ?_, .inr ?_⟩
 ·
  rw [hz j hj]
  split
  ·
   exact z51_right _ ht 1 (.inr rfl)
  exact z51_right _ ht 0 (.inl rfl)
 ·
  rw [hz j hj]
  intro h0
  split at h0 <;> cases h0
 rw [hc, hz j hj]
 cases hr : readyB ts (List.replicate ts.length z51) j
 ·
  rw [if_neg (by decide)]
  exact ⟨fun _ => rfl, fun _ => rfl⟩
 rw [if_pos rfl]
 exact ⟨fun e => absurd e (show ¬ ((1 : Int) = 0) by decide), fun e => Bool.noConfusion e⟩
structure Ahead (ky : ByteArray) (ts : List S49) (xs : List S51) (n : Nat) (now : Int) : Prop where
 run : runB ky ts 0 xs = true
 held : ∀ j, j < xs.length → (rd_T51 xs (j : Int)).f0 ≠ 2
 tried : tS xs = (n : Int) - 1
 one : 1 ≤ n
 now0 : 0 ≤ now
 now1 : now ≤ ((n : Int) - 1) * 4194304
 due : ∀ j, j < xs.length → (rd_T51 xs (j : Int)).f0 = 1 → (rd_T51 xs (j : Int)).f2 ≤ ((n : Int) - 1) * 4194304
def dueMax (xs : List S51) : Nat → Nat → Int → Int
 | _, 0, now => now
 | i, m + 1, now => dueMax xs (i + 1) m (if (rd_T51 xs (i : Int)).f0 = 1 then mx now (rd_T51 xs (i : Int)).f2 else now)
theorem mx_max (a b : Int) : mx a b = max a b := by unfold mx; split <;> omega
theorem dueMax_le {xs : List S51} {B : Int} (h : ∀ j, j < xs.length → (rd_T51 xs (j : Int)).f0 = 1 → (rd_T51 xs (j : Int)).f2 ≤ B) : ∀ m i now, i + m = xs.length → now ≤ B → now ≤ dueMax xs i m now ∧ dueMax xs i m now ≤ B ∧ ∀ j, i ≤ j → j < xs.length → (rd_T51 xs (j : Int)).f0 = 1 → (rd_T51 xs (j : Int)).f2 ≤ dueMax xs i m now
 | 0, i, now, hi, hb => ⟨Int.le_refl _, hb, fun j h1 h2 => by omega⟩
 | m + 1, i, now, hi, hb => by
  rw [dueMax, mx_max]
  have hd := h i (by omega)
  have hv : now ≤ (if (rd_T51 xs (i : Int)).f0 = 1 then max now (rd_T51 xs (i : Int)).f2 else now) ∧ (if (rd_T51 xs (i : Int)).f0 = 1 then max now (rd_T51 xs (i : Int)).f2 else now) ≤ B ∧ ((rd_T51 xs (i : Int)).f0 = 1 → (rd_T51 xs (i : Int)).f2 ≤ (if (rd_T51 xs (i : Int)).f0 = 1 then max now (rd_T51 xs (i : Int)).f2 else now)) := by
   by_cases h1 : (rd_T51 xs (i : Int)).f0 = 1
   ·
    have := hd h1
    rw [if_pos h1]
    omega
   rw [if_neg h1]
   exact ⟨Int.le_refl _, hb, fun e => absurd e h1⟩
  generalize (if (rd_T51 xs (i : Int)).f0 = 1 then max now (rd_T51 xs (i : Int)).f2 else now) = v at hv ⊢
  obtain ⟨a1, a2, a3⟩ := dueMax_le h m (i + 1) v (by omega) hv.2.1
  refine ⟨by omega, a2, fun j h1 h2 h3 => ?_⟩
  rcases Nat.lt_or_ge i j with h4 | h4
  ·
   exact a3 j (by omega) h2 h3
  obtain rfl : i = j := by omega
  have := hv.2.2 h3
  omega
theorem ends_l2 (a0 : List Int) (e a1 : Int) (n : Int) (ky nm : ByteArray) (ts : List S49) (is : Int) (xs : List S51) (hl : xs.length ≤ 100) (V : Option Bool) (K : Nat) : ∀ m i now k, i + m = xs.length → K + m ≤ k →
  (∀ q, K ≤ q → Fa.l2 q a0 e a1 (dueMax xs i m now) n xs (xs.length : Int) (xs.length : Int) ky nm ts is xs = V) → Fa.l2 k a0 e a1 now n xs (xs.length : Int) (i : Int) ky nm ts is xs = V
 | 0, i, now, k, hi, hk, hV => by
  obtain rfl : i = xs.length := by omega
  exact hV k (by omega)
 | m + 1, i, now, k, hi, hk, hV => by
  obtain ⟨k, rfl⟩ : ∃ q, k = q + 1 := ⟨k - 1, by omega⟩
  rw [Fa.l2, if_pos (by omega), if_pos (by omega), if_pos (by omega), wrap_nat i (by omega)]
  have ih := ends_l2 a0 e a1 n ky nm ts is xs hl V K m (i + 1)
  rw [dueMax] at hV
  by_cases h1 : (rd_T51 xs (i : Int)).f0 = 1
  ·
   rw [if_pos h1]
   rw [if_pos h1] at hV
   exact ih _ k (by omega) (by omega) hV
  rw [if_neg h1]
  rw [if_neg h1] at hV
  exact ih _ k (by omega) (by omega) hV
theorem due_ex {ky nm : ByteArray} {ts : List S49} {xs : List S51} (hd : DagOk nm ts) (h : runB ky ts 0 xs = true) (hh : ∀ j, j < xs.length → (rd_T51 xs (j : Int)).f0 ≠ 2) : ∃ j, j < xs.length ∧ (rd_T51 xs (j : Int)).f0 = 1 := by
 obtain ⟨_, _, hl, hf, ha⟩ := run_parts h
 obtain ⟨f1, f2, f3⟩ := fits0.1 hf
 have ho := (allOk_iff ts xs).1 ha
 rw [hasB_no] at f2 f3
 obtain ⟨p, hp⟩ := hd.rank
 have a1 : ∀ q j, p j ≤ q → j < xs.length → (rd_T51 xs (j : Int)).f0 = 0 → ∃ j, j < xs.length ∧ (rd_T51 xs (j : Int)).f0 = 1 := by
  intro q
  induction q with
  | zero =>
   intro j hq hj h0
   have hr := ((ho j hj).wait.resolve_left (f3 j hj)).1 h0
   unfold readyB at hr
   obtain ⟨x, hx, a0⟩ := List.all_eq_false.1 hr
   have hb := (hd.task (i := j) (by omega)).1 x hx
   obtain ⟨y, rfl⟩ := Int.eq_ofNat_of_zero_le hb.1
   have := hp j (by omega) y (by unfold needs; rw [rd49_nat ts j (by omega)] at hx; rw [List.getD_eq_getElem?_getD, List.getElem?_eq_getElem (by omega)]; exact hx)
   omega
  | succ q ih =>
   intro j hq hj h0
   have hr := ((ho j hj).wait.resolve_left (f3 j hj)).1 h0
   unfold readyB at hr
   obtain ⟨x, hx, a0⟩ := List.all_eq_false.1 hr
   have hb := (hd.task (i := j) (by omega)).1 x hx
   obtain ⟨y, rfl⟩ := Int.eq_ofNat_of_zero_le hb.1
   have a3 := hp j (by omega) y (by unfold needs; rw [rd49_nat ts j (by omega)] at hx; rw [List.getD_eq_getElem?_getD, List.getElem?_eq_getElem (by omega)]; exact hx)
   have hy : y < xs.length := by omega
   have hs := (ho y hy).st.1
   have h4 := f2 y hy
   have h5 := f3 y hy
   have h2 := hh y hy
   have h3 : (rd_T51 xs (y : Int)).f0 ≠ 3 := by simpa using a0
   have hI := hs.1
   have a2 := hs.2.1
   by_cases h1 : (rd_T51 xs (y : Int)).f0 = 1
   ·
    exact ⟨y, hy, h1⟩
   exact ih y (by omega) hy (by omega)
 obtain ⟨j, hj, e⟩ := (open_iff xs).1 f1
 have h2 := hh j hj
 by_cases h1 : (rd_T51 xs (j : Int)).f0 = 1
 ·
  exact ⟨j, hj, h1⟩
 exact a1 (p j) j (Nat.le_refl _) hj (by omega)
theorem dueI_some {now : Int} {ys : List S51} {j : Nat} (h1 : (rd_T51 ys (j : Int)).f0 = 1) (h2 : (rd_T51 ys (j : Int)).f2 ≤ unt now []) : ∀ m i, i ≤ j → j < i + m → 0 ≤ dueI now 0 ys i m
 | 0, i, h, h' => by omega
 | m + 1, i, h, h' => by
  rw [dueI]
  split
  ·
   omega
  rename_i hn
  have : i ≠ j := fun e => hn (by subst e; exact ⟨rfl, h1, h2⟩)
  exact dueI_some h1 h2 m (i + 1) (by omega) (by omega)
theorem fst_free {u : Int} {xs : List S51} (h : ∀ j, j < xs.length → (rd_T51 xs (j : Int)).f0 ≠ 2) : ¬ 0 ≤ fst_ u xs := fst_held ((hasB_no 2 xs).2 h)
theorem ends_lease {ky nm : ByteArray} {ts : List S49} {xs : List S51} {n : Nat} {now : Int} (hd : DagOk nm ts) (h : Ahead ky ts xs n now) (hn : n ≤ 1000) (a0 : ∀ j, j < xs.length → (rd_T51 xs (j : Int)).f0 = 1 → (rd_T51 xs (j : Int)).f2 ≤ now) :
  setP ts now (0, xs) = (0, xs) ∧ (leaseR ts now (n : Int) (0, xs)).1 = 0 := by
 have hs : setP ts now (0, xs) = (0, xs) := set_again (fst_free h.held)
 refine ⟨hs, ?_⟩
 obtain ⟨j, hj, h1⟩ := due_ex hd h.run h.held
 have a3 := h.one
 have a1 := h.now1
 have ho := (allOk_iff ts xs).1 (run_parts h.run).2.2.2.2
 have a4 := a0 j hj h1
 have hu : (rd_T51 xs (j : Int)).f2 ≤ unt now [] := by
  have := (ho j hj).st.1.2.2.2.2.2.1
  rw [unt_nil]
  unfold cnt
  omega
 have hI := dueI_some (ys := xs) h1 hu xs.length 0 (by omega) (by omega)
 unfold leaseR
 dsimp only
 rw [if_neg (by omega), if_neg, if_neg (by omega)]
 intro ha
 obtain ⟨s, hm, a2⟩ := List.any_eq_true.1 ha
 obtain ⟨q, hq, rfl⟩ := List.mem_iff_getElem.1 hm
 have h6 := tok_zero (ho q hq).st (h.held q hq)
 rw [rd51_nat _ q hq] at h6
 rw [h6, beq_iff_eq] at a2
 omega
theorem ends_after {ky nm : ByteArray} {ts : List S49} {xs : List S51} {n : Nat} {now : Int} (hd : DagOk nm ts) (h : Ahead ky ts xs n now) (hn : n ≤ 1000) {j : Nat} (hj : j < xs.length) {l d : S51}
  (hl : runB ky ts 0 (xs.set j l) = true) (l2 : l.f0 = 2) (hs : RightS (rd_T49 ts (j : Int)) d) (d0 : d.f0 = 1 ∨ d.f0 = 3 ∨ d.f0 = 4) (d3 : d.f3 = 0) (dt : d.f1 = (rd_T51 xs (j : Int)).f1 + 1) (dd : d.f0 = 1 → d.f2 ≤ (n : Int) * 4194304)
  {t : Int} (t0 : 0 ≤ t) (t1 : t ≤ (n : Int) * 4194304) :
  runB ky ts (mendP ts 0 ((xs.set j l).set j d)).1 (mendP ts 0 ((xs.set j l).set j d)).2 = true ∧ ((mendP ts 0 ((xs.set j l).set j d)).1 = 0 ∨ (mendP ts 0 ((xs.set j l).set j d)).1 = 1 ∨ (mendP ts 0 ((xs.set j l).set j d)).1 = 2) ∧
  ((mendP ts 0 ((xs.set j l).set j d)).1 = 0 → Ahead ky ts (mendP ts 0 ((xs.set j l).set j d)).2 (n + 1) t) := by
 have a2 : j < (xs.set j l).length := by rw [List.length_set]; exact hj
 have hr := mend_right hd hl a2 (by rw [rd_set hj, if_pos rfl]; exact l2) hs (by omega) (.inl d3)
 refine ⟨hr, mend_word _ _, fun h0 => ?_⟩
 rw [List.set_set] at hr h0 ⊢
 have a0 := (run_parts h.run).2.2.1
 have hw : Wf ts (xs.set j d).length := hd.wf (by rw [List.length_set]; exact a0)
 have a1 : (mendP ts 0 (xs.set j d)).2.length = xs.length := by rw [mendP_len, List.length_set]
 have hg : hasB 4 (xs.set j d) = false := by
  cases hb : hasB 4 (xs.set j d)
  ·
   rfl
  rw [mendP_lost hb] at h0; cases h0
 have hz : ∀ x : Nat, x < xs.length → (rd_T51 (mendP ts 0 (xs.set j d)).2 (x : Int) = (if j = x then d else rd_T51 xs (x : Int)) ∨ (rd_T51 (mendP ts 0 (xs.set j d)).2 (x : Int) = readyS (if j = x then d else rd_T51 xs (x : Int)) ∧ (if j = x then d else rd_T51 xs (x : Int)).f0 = 0)) := by
  intro x hx
  rw [mendP_goes hg]
  dsimp only
  rw [rd_ready hw _ x (Nat.le_refl _), rd_set hj]
  split
  ·
   by_cases e : (if j = x then d else rd_T51 xs (x : Int)).f0 = 0
   ·
    exact .inr ⟨rfl, e⟩
   refine .inl ?_
   unfold readyS
   rw [if_neg e]
  exact .inl rfl
 have ho := (allOk_iff ts xs).1 (run_parts h.run).2.2.2.2
 have a3 := h.one
 rw [h0] at hr
 refine ⟨hr, ?_, ?_, by omega, t0, by omega, ?_⟩
 ·
  intro x hx
  rw [a1] at hx
  have := h.held x hx
  rcases hz x hx with e | ⟨e, e0⟩
  ·
   rw [e]
   split
   ·
    omega
   exact this
  rw [e, readyS_f0, if_pos e0]; decide
 ·
  rw [tS_mend hw, tS_set hj d dt, h.tried]
  omega
 intro x hx e1
 rw [a1] at hx
 rcases hz x hx with e | ⟨e, e0⟩
 ·
  rw [e] at e1 ⊢
  split at e1
  ·
   rename_i e2
   rw [if_pos e2]
   have := dd e1
   omega
  rename_i e2
  rw [if_neg e2]
  have := h.due x hx e1
  omega
 have e2 : j ≠ x := fun e2 => by rw [if_pos e2] at e0; omega
 rw [if_neg e2] at e e0
 rw [e]
 have := (ho x hx).st.2.2.1 e0
 unfold readyS
 rw [if_pos e0]
 dsimp only
 omega
theorem ends_only {ky : ByteArray} {ts : List S49} {xs : List S51} {n : Nat} {now : Int} (h : Ahead ky ts xs n now) {j : Nat} (hj : j < xs.length) {l : S51} {x : Nat} (hx : x < xs.length) (e : (rd_T51 (xs.set j l) (x : Int)).f0 = 2) : x = j := by
 rw [rd_set hj] at e
 split at e
 ·
  rename_i e2; exact e2.symm
 exact absurd e (h.held x hx)
theorem ends_told {ky : ByteArray} {ts : List S49} {xs : List S51} {n : Nat} {now t : Int} {act : S49 → S51 → S51 × Int} (h : Ahead ky ts xs n now) {j : Nat} (hj : j < xs.length) {l : S51} (l2 : l.f0 = 2) (l3 : l.f3 = (n : Int)) (a1 : unt t [] < l.f2) (ha : (act (rd_T49 ts (j : Int)) l).2 = 0) :
  toldP ts t (n : Int) act (0, xs.set j l) = (0, mendP ts 0 ((xs.set j l).set j (act (rd_T49 ts (j : Int)) l).1)) := by
 have a0 : rd_T51 (xs.set j l) (j : Int) = l := by rw [rd_set hj, if_pos rfl]
 have hs : setP ts t (0, xs.set j l) = (0, xs.set j l) := set_again fun h0 => by
  obtain ⟨x, _, c1, c2, c3⟩ := fst_cand h0
  dsimp only at c1 c2 c3
  rw [List.length_set] at c1
  obtain rfl := ends_only h hj c1 c2
  rw [a0] at c3
  omega
 have h5 := heldI_some (token := (n : Int)) (ys := xs.set j l) (j := j) (by rw [a0]; exact l2) (by rw [a0]; exact l3) (xs.set j l).length 0 (by omega) (by rw [List.length_set]; omega)
 unfold toldP toldAt
 rw [hs]
 dsimp only
 rcases heldI_lt (n : Int) (xs.set j l) (xs.set j l).length 0 with h6 | ⟨x, h6, _, h7, h8, h9⟩
 ·
  omega
 rw [List.length_set] at h7
 obtain rfl := ends_only h hj (by omega) h8
 rw [h6, if_neg (by omega), a0, if_neg (by simpa using ha), Int.toNat_natCast]
theorem ends_settle {ky : ByteArray} {ts : List S49} {xs : List S51} {n : Nat} {now t : Int} (h : Ahead ky ts xs n now) {j : Nat} (hj : j < xs.length) {l : S51} (l2 : l.f0 = 2) (a0 : l.f2 ≤ unt t []) :
  setP ts t (0, xs.set j l) = mendP ts 0 ((xs.set j l).set j (expS (rd_T49 ts (j : Int)) l t)) := by
 have a1 : rd_T51 (xs.set j l) (j : Int) = l := by rw [rd_set hj, if_pos rfl]
 have hf : fst_ (unt t []) (xs.set j l) = (j : Int) := by
  rcases isFst (unt t []) (xs.set j l) with ⟨e, h1⟩ | ⟨x, e, hx, cx, _⟩
  ·
   exact absurd ⟨by rw [List.length_set]; exact hj, by rw [a1]; exact l2, by rw [a1]; exact a0⟩ (h1 j (by rw [List.length_set]; exact hj))
  rw [List.length_set] at hx
  obtain rfl := ends_only h hj hx cx.2.1
  exact e
 have a2 := stepS_yes (ts := ts) (now := t) (p := (0, xs.set j l)) hf
 dsimp only at a2
 rw [a1] at a2
 have a3 : heldN (mendP ts 0 ((xs.set j l).set j (expS (rd_T49 ts (j : Int)) l t))).2 ≤ 0 := by
  refine Nat.le_trans (held_mend _ _ _) ?_
  rw [List.set_set]
  have h0 : heldN xs = 0 := by
   unfold heldN
   rw [List.countP_eq_zero]
   intro s hs
   obtain ⟨x, hx, rfl⟩ := List.mem_iff_getElem.1 hs
   have := h.held x hx
   rw [rd51_nat xs x hx] at this
   simpa using this
  rw [held_same hj _ ⟨fun e => absurd e (expS_f0 l2 a0), fun e => absurd e (h.held j hj)⟩, h0]
  exact Nat.le_refl _
 unfold setP
 obtain ⟨q, hq⟩ : ∃ q, (xs.set j l).length = q + 1 := ⟨(xs.set j l).length - 1, by rw [List.length_set]; omega⟩
 dsimp only
 rw [hq, iterS, a2]
 exact (iter_more (ts := ts) (now := t) q 0 _ (by omega) a3).1
theorem has_f' (k : Nat) (hk : 1001 ≤ k) (ky nm : ByteArray) (ts : List S49) (is : Int) (xs : List S51) (c : Int) (hl : xs.length ≤ 1000) : Ff.f k ky nm ts is xs c = some (hasB c xs) := has_f k ky nm ts is xs c hl (by omega)
theorem fits_lost {xs : List S51} (h : fitsB 2 xs = true) : hasB 4 xs = true := by
 unfold fitsB at h
 cases h4 : hasB 4 xs
 ·
  rw [h4] at h
  cases h0 : openB xs <;> cases h5 : hasB 5 xs <;> rw [h0, h5] at h <;> cases h
 rfl
theorem ends_j5 (a0 : List Int) (a2 t : Int) (n : Nat) (ky nm : ByteArray) (ts : List S49) (p : Int × List S51) (hd : DagOk nm ts) (hn : n ≤ 1000) (hr : runB ky ts p.1 p.2 = true) (hw : p.1 = 0 ∨ p.1 = 1 ∨ p.1 = 2) (k : Nat) (hk : 5000 ≤ k)
  (a1 : ∀ q, k ≤ q + 2 → p.1 = 0 → Fa.l1 q a0 0 a2 t ((n + 1 : Nat) : Int) ky nm ts 0 p.2 = some true) :
  Fa.j5 k a0 0 a2 t (n : Int) ky nm ts p.1 p.2 = some true := by
 obtain ⟨k, rfl⟩ : ∃ q, k = q + 2 := ⟨k - 2, by omega⟩
 have hl : p.2.length ≤ 1000 := by have := (run_parts hr).2.2.1; have := hd.ten; omega
 rw [Fa.j5, if_pos rfl, ref_right ky nm ts _ _ hd (k + 1) (by omega), hr, Option.bind_some, Fa.j6, if_neg (by decide), alive_f k (by omega), Option.bind_some, if_pos rfl, has_f' k (by omega) ky nm ts _ _ 4 hl, Option.bind_some, has_f' k (by omega) ky nm ts _ _ 1 hl, Option.bind_some, wrap_nat n (by omega)]
 rcases hw with h | h | h
 ·
  rw [if_pos h, h]
  exact a1 k (by omega) h
 ·
  rw [h] at hr
  have h1 := fits_over (run_parts hr).2.2.2.1 (show (1 : Int) ≠ 0 by decide)
  unfold openB at h1
  simp only [Bool.or_eq_false_iff] at h1
  rw [if_neg (by omega), if_neg (by omega), if_pos h, h1.2.1]
  rfl
 rw [h] at hr
 rw [if_neg (by omega), if_pos h, fits_lost (run_parts hr).2.2.2.1, if_pos rfl]
theorem unt_at {t : Int} (h0 : 0 ≤ t) (h1 : t ≤ 1099511627776) : unt t [] = t := by
 rw [unt_nil]
 unfold cnt
 omega
theorem unt_plus {t a : Int} (h0 : 0 ≤ t) (h1 : 0 ≤ a) (h2 : t + a ≤ 1099511627776) : unt t [a] = t + a := by
 rw [unt_one]
 unfold cnt
 omega
theorem ends_j4 (a0 : List Int) (a8 now : Int) (n : Nat) (ky nm : ByteArray) (ts : List S49) (xs : List S51) (hd : DagOk nm ts) (h : Ahead ky ts xs n now) (hn : n ≤ 1000) {t : Int} (t0 : now ≤ t) (t1 : t ≤ ((n : Int) - 1) * 4194304)
  {j : Nat} (hj : j < xs.length) (hl : runB ky ts 0 (xs.set j ⟨2, (rd_T51 xs (j : Int)).f1 + 1, unt t [(rd_T49 ts (j : Int)).f3], (n : Int), (rd_T51 xs (j : Int)).f4⟩) = true) (f : Int) (k : Nat) (hk : 5100 ≤ k)
  (b5 : ∀ q ys t', k ≤ q + 3 → Ahead ky ts ys (n + 1) t' → Fa.l1 q a0 0 a8 t' ((n + 1 : Nat) : Int) ky nm ts 0 ys = some true) :
  Fa.j4 k a0 0 a8 t (n : Int) (j : Int) f ky nm ts 0 (xs.set j ⟨2, (rd_T51 xs (j : Int)).f1 + 1, unt t [(rd_T49 ts (j : Int)).f3], (n : Int), (rd_T51 xs (j : Int)).f4⟩) = some true := by
 obtain ⟨k, rfl⟩ : ∃ q, k = q + 1 := ⟨k - 1, by omega⟩
 have c8 := (run_parts h.run).2.2.1
 have d0 := h.one
 have c7 := h.now0
 have d2 := (hd.task (i := j) (by omega)).2.2
 have hu := unt_plus (t := t) (a := (rd_T49 ts (j : Int)).f3) (by omega) (by omega) (by omega)
 rw [hu] at hl ⊢
 generalize hL : (⟨2, (rd_T51 xs (j : Int)).f1 + 1, t + (rd_T49 ts (j : Int)).f3, (n : Int), (rd_T51 xs (j : Int)).f4⟩ : S51) = l at hl ⊢
 have l0 : l.f0 = 2 := by subst hL; rfl
 have l1 : l.f1 = (rd_T51 xs (j : Int)).f1 + 1 := by subst hL; rfl
 have l2 : l.f2 = t + (rd_T49 ts (j : Int)).f3 := by subst hL; rfl
 have l3 : l.f3 = (n : Int) := by subst hL; rfl
 have c6 : rd_T51 (xs.set j l) (j : Int) = l := by rw [rd_set hj, if_pos rfl]
 have b8 : RightS (rd_T49 ts (j : Int)) l := by
  have := ((allOk_iff _ _).1 (run_parts hl).2.2.2.2 j (by rw [List.length_set]; exact hj)).st
  rw [c6] at this
  exact this
 have d1 := unt_at (t := t) (by omega) (by omega)
 have b7 : ∀ (d : S51) (t' : Int), RightS (rd_T49 ts (j : Int)) d → (d.f0 = 1 ∨ d.f0 = 3 ∨ d.f0 = 4) → d.f3 = 0 → d.f1 = l.f1 → (d.f0 = 1 → d.f2 ≤ (n : Int) * 4194304) → 0 ≤ t' → t' ≤ (n : Int) * 4194304 →
   Fa.j5 k a0 0 a8 t' (n : Int) ky nm ts (mendP ts 0 ((xs.set j l).set j d)).1 (mendP ts 0 ((xs.set j l).set j d)).2 = some true := by
  intro d t' a1 a2 a3 a4 a5 a6 a7
  obtain ⟨r1, r2, r3⟩ := ends_after hd h hn hj hl l0 a1 a2 a3 (by omega) a5 a6 a7
  refine ends_j5 a0 a8 t' n ky nm ts _ hd hn r1 r2 k (by omega) fun q hq e => ?_
  have := b5 q _ t' (by omega) (r3 e)
  exact this
 have a9 : ∀ b0 : S49 → S51 → S51 × Int, Tells b0 → (b0 (rd_T49 ts (j : Int)) l).2 = 0 → runOf ky nm ts (toldP ts t (n : Int) b0 (0, xs.set j l)) = (ky, nm, ts, (mendP ts 0 ((xs.set j l).set j (b0 (rd_T49 ts (j : Int)) l).1)).1, (mendP ts 0 ((xs.set j l).set j (b0 (rd_T49 ts (j : Int)) l).1)).2, 0) := by
  intro b0 _ ha
  rw [ends_told h hj l0 l3 (by rw [d1, l2]; omega) ha]
  rfl
 have d4 : -3 < Int.tmod f 3 ∧ Int.tmod f 3 < 3 := ⟨Int.lt_tmod_of_pos f (by decide), Int.tmod_lt_of_pos f (by decide)⟩
 have b9 : wrap64 (Int.tmod f 3 + 3) = Int.tmod f 3 + 3 := w64_in _ (by omega)
 rw [Fa.j4, b9, Int.tmod_eq_emod_of_nonneg (by omega)]
 by_cases c0 : (Int.tmod f 3 + 3) % 3 = 0
 ·
  rw [if_pos c0, code_done ky nm ts 0 _ t (n : Int) ⟨#[114]⟩ hd hl k (by omega), Option.bind_some]
  have b6 := done_ok (r := ⟨#[114]⟩) (by decide) (t := rd_T49 ts (j : Int)) l0
  obtain ⟨b1, b2, b3⟩ := tells_done ⟨#[114]⟩ _ _ b8 l0 b6.2
  rw [a9 _ (tells_done _) b6.2]
  dsimp only
  rw [b6.1] at b1 ⊢
  exact b7 _ t b1 (.inr (.inl rfl)) rfl rfl (fun e => absurd e (show ¬ ((3 : Int) = 1) by decide)) (by omega) (by omega)
 rw [if_neg c0]
 by_cases c1 : (Int.tmod f 3 + 3) % 3 = 1
 ·
  rw [if_pos c1, code_fail ky nm ts 0 _ t (n : Int) hd hl k (by omega), Option.bind_some]
  have ha := aft_bd (rd_T49 ts (j : Int)).f2 l.f1
  have b4 : (failP t (rd_T49 ts (j : Int)) l).2 = 0 ∧ (failP t (rd_T49 ts (j : Int)) l).1.f1 = l.f1 ∧ (failP t (rd_T49 ts (j : Int)) l).1.f3 = 0 ∧ ((failP t (rd_T49 ts (j : Int)) l).1.f0 = 1 ∨ (failP t (rd_T49 ts (j : Int)) l).1.f0 = 4) ∧ ((failP t (rd_T49 ts (j : Int)) l).1.f0 = 1 → (failP t (rd_T49 ts (j : Int)) l).1.f2 ≤ (n : Int) * 4194304) := by
   unfold failP ofA failV
   rw [if_pos l0]
   split
   ·
    exact ⟨rfl, rfl, rfl, .inr rfl, fun e => absurd e (show ¬ ((4 : Int) = 1) by decide)⟩
   refine ⟨rfl, rfl, rfl, .inl rfl, fun _ => ?_⟩
   dsimp only
   rw [unt_plus (by omega) ha.1 (by omega)]
   omega
  obtain ⟨b1, b2, b3⟩ := tells_fail t _ _ b8 l0 b4.1
  rw [a9 _ (tells_fail t) b4.1]
  dsimp only
  exact b7 _ t b1 (by have := b4.2.2.2.1; omega) b4.2.2.1 b4.2.1 b4.2.2.2.2 (by omega) (by omega)
 rw [if_neg c1, if_pos (by omega), if_pos (by omega), if_pos (by rw [List.length_set]; omega), c6, mx_max]
 have c9 : max t l.f2 = l.f2 := by omega
 rw [c9, code_settle_f ky nm ts 0 _ l.f2 hd hl k (by omega), Option.bind_some]
 dsimp only
 have d3 := unt_at (t := l.f2) (by omega) (by omega)
 rw [ends_settle h hj l0 (by omega)]
 have ha := aft_bd (rd_T49 ts (j : Int)).f2 l.f1
 obtain ⟨b1, b2, b3⟩ := exp_right (now := l.f2) b8 l0 (by omega)
 refine b7 _ l.f2 b1 (by omega) b3 (expS_tr _ _ _) (fun e => ?_) (by omega) (by omega)
 unfold expS ofV expireV at e ⊢
 rw [if_pos ⟨l0, by omega⟩] at e ⊢
 split at e
 ·
  exact absurd e (show ¬ ((4 : Int) = 1) by decide)
 rename_i hlt
 rw [if_neg hlt]
 dsimp only
 rw [unt_plus (by omega) ha.1 (by omega)]
 omega
theorem ends_l1 (a0 : List Int) (ky nm : ByteArray) (ts : List S49) (hd : DagOk nm ts) : ∀ (m n : Nat) (xs : List S51) (now : Int) (k : Nat), (n : Int) + m = mostS ts + 1 → n + m ≤ 900 → Ahead ky ts xs n now → 6000 + 40 * m ≤ k →
  Fa.l1 k a0 0 (mostS ts) now (n : Int) ky nm ts 0 xs = some true := by
 intro m
 induction m with
 | zero =>
  intro n xs now k hn a3 h hk
  exfalso
  have hl := (run_parts h.run).2.2.1
  have ho := (allOk_iff ts xs).1 (run_parts h.run).2.2.2.2
  obtain ⟨j, hj, e⟩ := due_ex hd h.run h.held
  have h1 := h.tried
  have h2 : tS xs < mostS ts := by
   unfold tS mostS
   rw [hl]
   refine sum_lt (j := j) ?_ ts.length (by omega) fun i hi => ?_
   ·
    have := (ho j hj).st.2.2.2.1 e
    exact this
   exact (ho i (by omega)).st.2.1
  omega
 | succ m ih =>
  intro n xs now k hn a3 h hk
  obtain ⟨k, rfl⟩ : ∃ q, k = q + 1 := ⟨k - 1, by omega⟩
  have hl := (run_parts h.run).2.2.1
  have a5 := hd.ten
  have a4 := h.one
  rw [Fa.l1, if_pos (by omega)]
  refine ends_l2 a0 0 (mostS ts) (n : Int) ky nm ts 0 xs (by omega) (some true) (6000 + 40 * m + 20) xs.length 0 now k (by omega) (by omega) fun q hq => ?_
  obtain ⟨q, rfl⟩ : ∃ z, q = z + 1 := ⟨q - 1, by omega⟩
  obtain ⟨d1, d2, d3⟩ := dueMax_le h.due xs.length 0 now (by omega) h.now1
  generalize dueMax xs 0 xs.length now = t at d1 d2 d3 ⊢
  have h0 := h.now0
  have ht : Ahead ky ts xs n t := ⟨h.run, h.held, h.tried, h.one, by omega, d2, h.due⟩
  obtain ⟨e1, e2⟩ := ends_lease hd ht (by omega) (fun j hj e => d3 j (by omega) hj e)
  obtain ⟨_, r1, j, hj, h1, r2, r3⟩ := lease_right hd h.run e2
  dsimp only at hj h1 r2 r3
  rw [r3] at r2
  rw [r2] at r1
  dsimp only at r1
  rw [Fa.l2, if_neg (by omega), code_lease_f ky nm ts 0 xs t (n : Int) hd h.run q (by omega), Option.bind_some, e1]
  unfold leaseOf
  rw [if_pos e2, r2]
  dsimp only
  rw [if_pos rfl, if_neg (by omega), List.length_set, decide_eq_false (by omega)]
  obtain ⟨q, rfl⟩ : ∃ z, q = z + 1 := ⟨q - 1, by omega⟩
  have a2 := fun f => ends_j4 a0 (mostS ts) t n ky nm ts xs hd ht (by omega) (Int.le_refl _) d2 hj r1 f q (by omega) (fun z ys t' hz ha => ih (n + 1) ys t' z (by omega) (by omega) ha (by omega))
  rw [Fa.j3, if_neg (by decide)]
  have hw : wrap64 ((n : Int) - 1) = (n : Int) - 1 := w64_in _ (by omega)
  by_cases a1 : (n : Int) ≤ (a0.length : Int)
  ·
   rw [if_pos a1, hw, if_pos (by omega), if_pos (by omega)]
   exact a2 _
  rw [if_neg a1]
  exact a2 0
theorem most_bd {nm : ByteArray} {ts : List S49} (hd : DagOk nm ts) : ∀ i, i ≤ ts.length → 0 ≤ sumTo (fun i => (rd_T49 ts (i : Int)).f1) i ∧ sumTo (fun i => (rd_T49 ts (i : Int)).f1) i ≤ 8 * (i : Int)
 | 0, _ => ⟨Int.le_refl _, by rw [sumTo]; omega⟩
 | i + 1, h => by
  have ih := most_bd hd i (by omega)
  have ht := (hd.task (i := i) (by omega)).2.2
  rw [sumTo]
  omega
theorem ends_l0 (a0 : List Int) (ky nm : ByteArray) (ts : List S49) (is : Int) (xs : List S51) (hd : DagOk nm ts) (V : Option Bool) (K : Nat) : ∀ m i k, i + m = ts.length → K + m + 1 ≤ k →
  (∀ q, K ≤ q → Fa.l1 q a0 0 (mostS ts) 0 1 ky nm ts is xs = V) → Fa.l0 k a0 0 (sumTo (fun i => (rd_T49 ts (i : Int)).f1) i) 0 ts (ts.length : Int) (i : Int) ky nm ts is xs = V
 | 0, i, k, hi, hk, hV => by
  obtain ⟨k, rfl⟩ : ∃ q, k = q + 1 := ⟨k - 1, by omega⟩
  obtain rfl : i = ts.length := by omega
  rw [Fa.l0, if_neg (by omega)]
  exact hV k (by omega)
 | m + 1, i, k, hi, hk, hV => by
  obtain ⟨k, rfl⟩ : ∃ q, k = q + 1 := ⟨k - 1, by omega⟩
  have a1 := hd.ten
  have ht := (hd.task (i := i) (by omega)).2.2
  have hb : 0 ≤ sumTo (fun i => (rd_T49 ts (i : Int)).f1) i ∧ sumTo (fun i => (rd_T49 ts (i : Int)).f1) i ≤ 8 * (i : Int) := most_bd hd i (by omega)
  rw [Fa.l0, if_pos (by omega), if_pos (by omega), if_pos (by omega), wrap_nat i (by omega), w64_in _ (by omega)]
  exact ends_l0 a0 ky nm ts is xs hd V K m (i + 1) k (by omega) (by omega) hV
theorem RunEnds : Fa.Pure := by
 intro x0 x1 hx _
 obtain ⟨nm, ts⟩ := x0
 obtain ⟨_, _, a3⟩ := hx
 have hn : ∀ t ∈ ts, t.f0.length ≤ 9223372036854775807 := fun t ht => (a3 t ht).1.1
 refine ⟨11 * 9223372036854775807 + 60000, ?_⟩
 generalize hK : 11 * 9223372036854775807 + 60000 = K
 have a6 : 11 * 9223372036854775807 + 50000 ≤ K := by omega
 clear hK
 dsimp only
 unfold Fa.f Fz.f
 rcases dag_wide nm ts 9223372036854775807 (Nat.le_refl _) hn with ⟨R, h0, hc, hr⟩ | hd
 ·
  have a1 : newO K ⟨#[107]⟩ nm ts = some (R, 0, []) := by
   unfold newO
   rw [if_neg (by decide), if_neg (by decide), hc K (by omega), Option.bind_some, if_pos h0]
  rw [a1, Option.bind_some, Option.bind_some]
  unfold runOf
  rw [if_neg h0]
  dsimp only
  rw [if_neg h0, alive_f K (by omega), Option.bind_some, if_pos rfl, hr K (by omega), Option.bind_some]
  simp
 rw [code_new ⟨#[107]⟩ nm ts hd (by decide) (by decide) K (by omega), Option.bind_some, Option.bind_some]
 unfold runOf
 rw [if_pos rfl]
 dsimp only
 obtain ⟨n1, n2⟩ := new_right (ky := ⟨#[107]⟩) hd (by decide) (by decide)
 have a0 := newP_len ts
 have a2 : ∀ j : Nat, j < ts.length → rd_T51 (newP ts).2 (j : Int) = if readyB ts (List.replicate ts.length z51) j = true then ⟨1, 0, 0, 0, ⟨#[]⟩⟩ else z51 := by
  intro j hj
  rw [n1]
  exact new_state (hd.wf rfl) j hj
 have a7 := most_bd hd ts.length (Nat.le_refl _)
 have a5 := hd.ten
 have ha : Ahead ⟨#[107]⟩ ts (newP ts).2 1 0 := by
  refine ⟨n2, ?_, ?_, by omega, Int.le_refl _, by omega, ?_⟩
  ·
   intro j hj
   rw [a2 j (by omega)]
   split <;> decide
  ·
   unfold tS
   rw [a0, show ((1 : Nat) : Int) - 1 = sumTo (fun _ => 0) ts.length from ?_]
   ·
    refine sum_congr _ fun i hi => ?_
    rw [a2 i hi]
    split <;> rfl
   have : ∀ q, sumTo (fun _ => (0 : Int)) q = 0 := fun q => by induction q with
    | zero => rfl
    | succ q ih => rw [sumTo, ih]; rfl
   rw [this]
   rfl
  intro j hj _
  rw [a2 j (by omega)]
  split <;> decide
 have a4 : (newP ts).1 = 0 := by rw [n1]
 rw [if_pos rfl, a4]
 refine ends_l0 x1 ⟨#[107]⟩ nm ts 0 (newP ts).2 hd (some true) (K - 100) ts.length 0 K (by omega) (by omega) fun q hq => ?_
 have hm : 0 ≤ mostS ts ∧ mostS ts ≤ 80 := by unfold mostS; omega
 exact ends_l1 x1 ⟨#[107]⟩ nm ts hd (mostS ts).toNat 1 (newP ts).2 0 q (by omega) (by omega) ha (by omega)
end Go.Proofs.Ytabmkighhmchmaa.Pure
namespace Go.Proofs.Ytabmkighhmchmaa
open Go.RowKit Go.ChangeShapes Go.WideShapes Go.Deep Go.Proofs.YtabmkighhmchmaaW.PrintWords
def Opens {α : Type} (P : Program) (t : TypeId) (d : Kd α) (G : α → Prop) : Prop :=
 ∀ {H : Type} (enc : TypeId × Value → H) (w : World) (base : Nat) (spare : Nat → Bool) (held : Bool) (fuel : Nat) (cs : List Value) (x : DataW H × List MemPlace),
  DataW.trod enc P w base spare held fuel t cs = some x → ∃ a : α, d.K w a cs ∧ G a
theorem opens_int {P : Program} {t : TypeId} {k : IntKind} (ht : P.underlying t = some (.int k)) : Opens P t (Kd.int k) (fun n => (Lit.int k n).wf = true) := by
 intro H enc w base spare held fuel cs x h
 obtain ⟨n, rfl, _, hw⟩ := DataW.trod_int ht h
 exact ⟨n, rfl, hw⟩
theorem opens_string {P : Program} {t : TypeId} (ht : P.underlying t = some .string) : Opens P t Kd.string (fun s => s.size ≤ maxLen) := by
 intro H enc w base spare held fuel cs x h
 obtain ⟨n, rfl, _, hs⟩ := DataW.trod_string ht h
 exact ⟨n, rfl, hs⟩
theorem opens_slice {α : Type} {P : Program} {t e : TypeId} {d : Kd α} {G : α → Prop} (ht : P.underlying t = some (.slice e)) (hsz : P.cellsOf e = d.sz) (hd : Opens P e d G) :
  Opens P t (Kd.slice e d) (fun l => l.length ≤ maxLen ∧ ∀ a ∈ l, G a) := by
 intro H enc w base spare held fuel cs x h
 rcases open_slice ht h with ⟨rfl, _⟩ | ⟨a, len, cap, m, n, D, Pl, rfl, _, hl, hm, hmm, _, hi⟩
 ·
  exact ⟨[], ⟨none, 0, rfl, Nat.le_refl _, rfl, by simp, fun h0 => absurd h0 (by simp)⟩, by simp, fun _ h0 => by cases h0⟩
 have hlm : len ≤ m := by rw [hmm]; split <;> omega
 have key : ∀ i, i < len → ∃ z : α × List Value, z.2.length = d.sz ∧ d.K w z.1 z.2 ∧ G z.1 ∧ ∀ j u, z.2[j]? = some u → w.cell? (a.add (i * d.sz + j)) = some u := by
  intro i hil
  obtain ⟨cs', hc, hr⟩ := hi i (by omega)
  rw [hsz] at hc
  obtain ⟨_, hcl, hat⟩ := World.cells?_some hc
  obtain ⟨y, hK, hG⟩ := hd enc w base spare held n cs' _ hr
  refine ⟨(y, cs'), hcl, hK, hG, fun j u hj => ?_⟩
  have hjl : j < cs'.length := (List.getElem?_eq_some_iff.1 hj).1
  have := hat j (by omega)
  rw [Go.Deep.add_add] at this
  rw [this]
  exact hj
 rcases Nat.eq_zero_or_pos len with rfl | hpos
 ·
  exact ⟨[], ⟨some a, cap, rfl, Nat.zero_le _, rfl, by simp, fun h0 => absurd h0 (by simp)⟩, by simp, fun _ h0 => by cases h0⟩
 obtain ⟨z0, _⟩ := key 0 hpos
 haveI : Inhabited (α × List Value) := ⟨z0⟩
 obtain ⟨f, hf⟩ := choose_lt key
 have hlen : ((List.range len).map fun i => (f i).1).length = len := by simp
 refine ⟨(List.range len).map fun i => (f i).1, ⟨some a, cap, by rw [hlen], by rw [hlen]; exact hl, ?_⟩, by rw [hlen]; omega, ?_⟩
 ·
  refine ⟨rfl, by rw [hlen]; unfold maxLen at hm; omega, fun _ => ⟨a, rfl, fun j p hj => ?_⟩⟩
  obtain ⟨hjl, hjp⟩ := List.getElem?_eq_some_iff.1 hj
  rw [hlen] at hjl
  simp at hjp
  obtain ⟨h1, h2, _, h4⟩ := hf j hjl
  exact ⟨(f j).2, h1, by rw [← hjp]; exact h2, h4⟩
 intro y hy
 obtain ⟨i, hir, rfl⟩ := List.mem_map.1 hy
 exact (hf i (List.mem_range.1 hir)).2.2.1
def OpensL {α : Type} (P : Program) (fs : List Field) (off C : Nat) (d : Kd α) (G : α → Prop) : Prop :=
 ∀ {H : Type} (enc : TypeId × Value → H) (w : World) (base : Nat) (spare : Nat → Bool) (held : Bool) (n : Nat) (cs : List Value), cs.length = C →
  (∀ f ∈ fs, ∃ y, DataW.trod enc P w base spare held n f.type ((cs.drop f.offset).take (P.cellsOf f.type)) = some y) → ∃ a : α, d.K w a (cs.drop off) ∧ G a
theorem opens_last {α : Type} {P : Program} {f : Field} {off C : Nat} {d : Kd α} {G : α → Prop} (hd : Opens P f.type d G) (ho : f.offset = off) (hc : off + P.cellsOf f.type = C) : OpensL P [f] off C d G := by
 intro H enc w base spare held n cs hl h
 obtain ⟨y, hy⟩ := h f (by simp)
 rw [ho, List.take_of_length_le (by rw [List.length_drop]; omega)] at hy
 exact hd enc w base spare held n _ _ hy
theorem opens_more {α β : Type} {P : Program} {f : Field} {fs : List Field} {off off' C : Nat} {d : Kd α} {e : Kd β} {G : α → Prop} {G' : β → Prop} (hd : Opens P f.type d G) (ho : f.offset = off) (hn : off + P.cellsOf f.type = off') (he : OpensL P fs off' C e G') :
  OpensL P (f :: fs) off C (Kd.pair d e) (fun x => G x.1 ∧ G' x.2) := by
 intro H enc w base spare held n cs hl h
 obtain ⟨y, hy⟩ := h f (by simp)
 obtain ⟨b, hb, hg⟩ := he enc w base spare held n cs hl (fun g hgm => h g (by simp [hgm]))
 obtain ⟨a, ha, hga⟩ := hd enc w base spare held n _ _ hy
 refine ⟨(a, b), ⟨_, _, ?_, ha, hb⟩, hga, hg⟩
 rw [ho, ← hn, ← List.drop_drop, List.take_append_drop]
theorem opens_struct {α β : Type} {P : Program} {t : TypeId} {fs : Array Field} {d : Kd α} {G : α → Prop} (f : β → α) (g : α → β) (hfg : ∀ a, f (g a) = a) (ht : P.underlying t = some (.struct fs)) {C : Nat} (hC : P.cellsOf t = C)
  (hd : OpensL P fs.toList 0 C d G) : Opens P t (Kd.iso d f) (fun x => G (f x)) := by
 intro H enc w base spare held fuel cs x h
 obtain ⟨xs, n, _, _, hl, hxl, hf⟩ := DataW.trod_struct ht h
 obtain ⟨a, ha, hg⟩ := hd enc w base spare held n cs (by rw [hl, hC]) (fun z hz => by
  obtain ⟨i, hi, rfl⟩ := List.mem_iff_getElem.1 hz
  rw [Array.length_toList] at hi
  have := hf i (fs.toList[i]) (by rw [← Array.getElem?_toList]; exact List.getElem?_eq_getElem _)
  exact ⟨xs[i]'(by omega), by rw [this]; exact List.getElem?_eq_getElem _⟩)
 refine ⟨g a, ?_, ?_⟩
 ·
  show d.K w (f (g a)) cs
  rw [hfg]
  simpa using ha
 show G (f (g a))
 rw [hfg]
 exact hg
theorem opens_agg {α : Type} {H : Type} {enc : TypeId × Value → H} {P : Program} {w : World} {r : Reach} {b0 base : Nat} {spare : Nat → Bool} {held : Bool} {t : TypeId} {fs : Array Field} {v : Value} {y : DataW H} {p : List MemPlace} {d : Kd α} {G : α → Prop}
  (ho : Opens P t d G) (hs : P.underlying t = some (.struct fs)) (hv : Value.okWide P w r b0 t v) (h : DataW.Trod enc P w base spare held t v y p) : ∃ (a : α) (cs : List Value), v = .agg cs.toArray ∧ d.K w a cs ∧ G a := by
 obtain ⟨cs, rfl, _⟩ := okWide_struct hs hv
 obtain ⟨fuel, hf⟩ := h
 obtain ⟨a, hK, hG⟩ := ho _ _ _ _ _ _ _ _ hf
 exact ⟨a, cs.toList, by simp, by simpa [Value.cells] using hK, hG⟩
theorem opens_row {α : Type} {H : Type} {enc : TypeId × Value → H} {P : Program} {w : World} {r : Reach} {b0 base : Nat} {spare : Nat → Bool} {held : Bool} {t e : TypeId} {v : Value} {y : DataW H} {p : List MemPlace} {d : Kd α} {G : List α → Prop}
  (ho : Opens P t (Kd.slice e d) G) (hs : P.underlying t = some (.slice e)) (hv : Value.okWide P w r b0 t v) (h : DataW.Trod enc P w base spare held t v y p) : ∃ (l : List α) (A : Option Addr) (c : Nat), v = .slice A l.length c ∧ l.length ≤ c ∧ d.C w A l.length l ∧ G l := by
 obtain ⟨A, n, c, rfl⟩ := okWide_slice hs hv
 obtain ⟨fuel, hf⟩ := h
 obtain ⟨l, ⟨A', c', he, hl, hC⟩, hG⟩ := ho _ _ _ _ _ _ _ _ hf
 simp [Value.cells] at he
 obtain ⟨rfl, rfl, rfl⟩ := he
 exact ⟨l, A, c, rfl, hl, hC, hG⟩
end Go.Proofs.Ytabmkighhmchmaa
