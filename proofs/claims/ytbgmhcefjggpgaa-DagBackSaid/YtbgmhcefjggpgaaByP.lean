/- The bytes of a graph: the plain value of what the code writes. -/
import Derived.Test.YtbgmhcefjggpgaaOrd
import Derived.Test.YtbgmhcefjggpgaaXPut
namespace Go.Proofs.Ytbgmhcefjggpgaa.Pure
open Go.RowKit Go.Proofs.Ytbgmhcefjggpgaa.X Go.Proofs.YtbgmhcefjggpgaaW.PrintWords Go.Proofs.YtbgmhcefjggpgaaW.PrintLast
set_option linter.unusedVariables false

theorem put1 (k : Nat) (hk : 4 ≤ k) {n : Int} (h0 : 0 ≤ n) (h1 : n < 256) : P.code_Put.f k n 1 = some (strOfNums [n % 256], 0) := by
  obtain ⟨k, rfl⟩ : ∃ m, k = m + 4 := ⟨k - 4, by omega⟩
  have e : n / 256 = 0 := by omega
  unfold P.code_Put.f
  rw [if_neg (by omega), if_neg (by omega), if_neg (by omega)]
  simp [P.code_Put.j0, P.code_Put.l0, wrap64, shr, e, IntKind.bits]
theorem put2 (k : Nat) (hk : 5 ≤ k) {n : Int} (h0 : 0 ≤ n) (h1 : n < 65536) : P.code_Put.f k n 2 = some (strOfNums [n / 256 % 256, n % 256], 0) := by
  obtain ⟨k, rfl⟩ : ∃ m, k = m + 5 := ⟨k - 5, by omega⟩
  have e : n / 65536 = 0 := by omega
  unfold P.code_Put.f
  rw [if_neg (by omega), if_neg (by omega), if_neg (by omega)]
  simp [P.code_Put.j0, P.code_Put.l0, wrap64, shr, e, IntKind.bits, List.replicate]
theorem put3 (k : Nat) (hk : 6 ≤ k) {n : Int} (h0 : 0 ≤ n) (h1 : n < 16777216) : P.code_Put.f k n 3 = some (strOfNums [n / 65536 % 256, n / 256 % 256, n % 256], 0) := by
  obtain ⟨k, rfl⟩ : ∃ m, k = m + 6 := ⟨k - 6, by omega⟩
  have e : n / 16777216 = 0 := by omega
  unfold P.code_Put.f
  rw [if_neg (by omega), if_neg (by omega), if_neg (by omega)]
  simp [P.code_Put.j0, P.code_Put.l0, wrap64, shr, e, IntKind.bits, List.replicate]
/-- A byte of a number. -/
def ub (n : Int) : UInt8 := UInt8.ofNat n.toNat
theorem ub_nat {n : Int} (h0 : 0 ≤ n) (h1 : n < 256) : ((ub n).toNat : Int) = n := by
  unfold ub
  rw [UInt8.toNat_ofNat']
  omega
theorem ub_of (c : UInt8) {n : Int} (h : n = c.toNat) : ub n = c := by
  subst h
  unfold ub
  rw [Int.toNat_natCast]
  exact UInt8.ofNat_toNat
theorem strOf_list (l : List Int) : (strOfNums l).data.toList = l.map ub := rfl
def mkB (l : List UInt8) : ByteArray := ⟨l.toArray⟩
theorem mkB_list (l : List UInt8) : (mkB l).data.toList = l := by simp [mkB]
theorem mkB_of (b : ByteArray) : mkB b.data.toList = b := by cases b; simp [mkB]
theorem mkB_size (l : List UInt8) : (mkB l).size = l.length := by rw [Go.Lib.size_eq, mkB_list]
theorem mkB_app (a b : List UInt8) : mkB a ++ mkB b = mkB (a ++ b) := by
  rw [← mkB_of (mkB a ++ mkB b)]
  congr 1
/-- A number in two bytes, in three, and a text and its length ahead of it. -/
def two (n : Int) : List UInt8 := [ub (n / 256 % 256), ub (n % 256)]
def three (n : Int) : List UInt8 := [ub (n / 65536 % 256), ub (n / 256 % 256), ub (n % 256)]
def txt (s : ByteArray) : List UInt8 := two (s.size : Int) ++ s.data.toList
theorem txt_len (s : ByteArray) : (txt s).length = s.size + 2 := by
  unfold txt two
  rw [List.length_append, ← Go.Lib.size_eq]; simp only [List.length_cons, List.length_nil]; omega
theorem all2 (a b : List UInt8) (h : a.length + b.length ≤ 1000000) : code_All.f [mkB a, mkB b] = some (mkB (a ++ b)) := by
  have e : catL [mkB a, mkB b] = a ++ b := by simp [catL, mkB]
  unfold code_All.f
  rw [e, if_pos ⟨by rw [List.length_append]; omega, by simp⟩]
  rfl
theorem strTwo (n : Int) : strOfNums [n / 256 % 256, n % 256] = mkB (two n) := rfl
theorem text_p (k : Nat) (hk : 5 ≤ k) (s : ByteArray) (h : s.size ≤ 65535) : P.code_Text.f k s = some (mkB (txt s), 0) := by
  unfold P.code_Text.f
  rw [if_neg (by omega), put2 k hk (by omega) (by omega)]
  simp only [Option.bind_some]
  have e := all2 (two (s.size : Int)) s.data.toList (by rw [← Go.Lib.size_eq]; simp [two]; omega)
  rw [mkB_of] at e
  rw [strTwo, e]
  rfl
theorem add1 (k : Nat) (hk : 6 ≤ k) (o : List UInt8) (ho : o.length ≤ 90000) {n : Int} (h0 : 0 ≤ n) (h1 : n < 256) : addF k (mkB o) n 1 = some (mkB (o ++ [ub n])) := by
  unfold addF
  rw [put1 k (by omega) h0 h1, Option.bind_some, show n % 256 = n by omega]
  exact all2 o [ub n] (by simp; omega)
theorem add3 (k : Nat) (hk : 6 ≤ k) (o : List UInt8) (ho : o.length ≤ 90000) {n : Int} (h0 : 0 ≤ n) (h1 : n < 16777216) : addF k (mkB o) n 3 = some (mkB (o ++ three n)) := by
  unfold addF
  rw [put3 k (by omega) h0 h1, Option.bind_some]
  exact all2 o (three n) (by simp [three]; omega)
/-- The bytes of a task, and of a graph. -/
def taskBy (t : S39) : List UInt8 := ub (t.f0.length : Int) :: (t.f0.map ub ++ (ub t.f1 :: (three t.f2 ++ three t.f3)))
def dagB (nm : ByteArray) (T : List S39) : List UInt8 := txt nm ++ (ub (T.length : Int) :: T.flatMap taskBy)
def byT (t : S39) : Prop := t.f0.length ≤ 255 ∧ (∀ x ∈ t.f0, 0 ≤ x ∧ x < 256) ∧ 0 ≤ t.f1 ∧ t.f1 < 256 ∧ 0 ≤ t.f2 ∧ t.f2 < 16777216 ∧ 0 ≤ t.f3 ∧ t.f3 < 16777216
theorem taskBy_len (t : S39) : (taskBy t).length = t.f0.length + 8 := by simp [taskBy, three]
theorem putNeeds_p (k : Nat) (hk : 6 ≤ k) : ∀ (L : List Int) (o : List UInt8), (∀ x ∈ L, 0 ≤ x ∧ x < 256) → o.length + L.length ≤ 80000 → putNeeds k L (mkB o) = some (mkB (o ++ L.map ub))
  | [], o, _, _ => by rw [putNeeds, List.map_nil, List.append_nil]
  | x :: L, o, h, hl => by
    rw [List.length_cons] at hl
    rw [putNeeds, add1 k hk o (by omega) (h x (by simp)).1 (h x (by simp)).2, Option.bind_some, putNeeds_p k hk L _ (fun y hy => h y (by simp [hy])) (by rw [List.length_append]; simp; omega)]
    simp
theorem putTasks_p (k : Nat) (hk : 6 ≤ k) : ∀ (T : List S39) (o : List UInt8), (∀ t ∈ T, byT t) → o.length + 300 * T.length ≤ 70000 → putTasks k T (mkB o) = some (mkB (o ++ T.flatMap taskBy))
  | [], o, _, _ => by rw [putTasks, List.flatMap_nil, List.append_nil]
  | t :: T, o, h, hl => by
    obtain ⟨h1, h2, h3, h4, h5, h6, h7, h8⟩ := h t (by simp)
    rw [List.length_cons] at hl
    rw [putTasks, if_pos (by omega), add1 k hk o (by omega) (by omega) (by omega), Option.bind_some, putNeeds_p k hk t.f0 _ h2 (by simp; omega), Option.bind_some,
      add1 k hk _ (by simp; omega) h3 h4, Option.bind_some, add3 k hk _ (by simp; omega) h5 h6, Option.bind_some, add3 k hk _ (by simp [three]; omega) h7 h8, Option.bind_some,
      putTasks_p k hk T _ (fun y hy => h y (by simp [hy])) (by simp [three]; omega)]
    simp [taskBy, List.flatMap_cons]
/-! What may be, is written in few bytes. -/
theorem asc_len {n : Int} : ∀ {l : List Int} {last : Int}, last < n → ascB n last l = true → (l.length : Int) ≤ n - 1 - last
  | [], last, h0, _ => by simp; omega
  | x :: xs, last, h0, h => by
    simp only [ascB, Bool.and_eq_true, decide_eq_true_eq] at h
    have := asc_len (l := xs) h.2.1 h.2.2
    simp only [List.length_cons]
    omega
theorem task_by {n : Nat} (hn : n ≤ 200) (h1 : 1 ≤ n) {t : S39} (h : taskB (n : Int) t = true) : byT t ∧ t.f0.length ≤ n := by
  unfold taskB numsB at h
  simp only [Bool.and_eq_true, decide_eq_true_eq] at h
  obtain ⟨ha, c1, c2, c3, c4, c5, c6⟩ := h
  have hl := asc_len (l := t.f0) (show (-1 : Int) < n by omega) ha
  refine ⟨⟨by omega, fun x hx => ?_, by omega, by omega, by omega, by omega, by omega, by omega⟩, by omega⟩
  have := asc_mem ha x hx
  omega
theorem put_f (nm : ByteArray) (T : List S39) (k : Nat) (hk : 6 ≤ k) (hR : dag_Right.f k nm T = some 0) (hl : T.length ≤ 10) (h1 : 1 ≤ T.length) (hn : nm.size ≤ 16) (hT : T.all (taskB (T.length : Int)) = true) : dag_Put.f k nm T = some (mkB (dagB nm T), 0) := by
  unfold dag_Put.f
  rw [hR, Option.bind_some, if_pos rfl, if_pos (by omega), text_p k (by omega) nm (by omega), Option.bind_some, add1 k hk _ (by rw [txt_len]; omega) (by omega) (by omega), Option.bind_some,
    putTasks_p k hk T _ (fun t ht => (task_by (by omega) h1 (List.all_eq_true.1 hT t ht)).1) (by rw [List.length_append, txt_len]; simp; omega)]
  simp [dagB]
theorem flat_len (n : Nat) : ∀ T : List S39, (∀ t ∈ T, t.f0.length ≤ n) → (T.flatMap taskBy).length ≤ (n + 8) * T.length
  | [], _ => by simp
  | t :: T, h => by
    have h1 := flat_len n T (fun y hy => h y (by simp [hy]))
    have h2 := h t (by simp)
    rw [List.flatMap_cons, List.length_append, taskBy_len, List.length_cons, Nat.mul_succ]
    omega
theorem dagB_len (nm : ByteArray) (T : List S39) (hl : T.length ≤ 10) (h1 : 1 ≤ T.length) (hn : nm.size ≤ 16) (hT : T.all (taskB (T.length : Int)) = true) : (dagB nm T).length ≤ 200 := by
  have := flat_len 10 T (fun t ht => by have := (task_by (by omega) h1 (List.all_eq_true.1 hT t ht)).2; omega)
  unfold dagB
  rw [List.length_append, txt_len, List.length_cons]
  omega
/-- What is told of any graph read. -/
theorem anyT_g (n : Int) (k : Nat) (hk : 1002 ≤ k) : ∀ l : List S39, (∀ t ∈ l, t.f0.length ≤ 1000) → anyT k n l = some (!(l.all (taskB n)))
  | [], _ => rfl
  | t :: ts, h => by
    have e : dag_task.f k t.f0 t.f1 t.f2 t.f3 n = some (taskB n t) := by
      unfold dag_task.f taskB
      have := task_l n t (h t (by simp)) t.f0.length 0 k (-1) (by omega) (by have := h t (by simp); omega)
      rw [List.drop_zero] at this
      exact this
    rw [anyT, e, Option.bind_some, anyT_g n k hk ts (fun y hy => h y (by simp [hy])), List.all_cons]
    cases taskB n t <;> simp
theorem right_any (nm : ByteArray) (T : List S39) (hn : ∀ t ∈ T, t.f0.length ≤ 1000) : ∃ R, (∀ k, 1002 ≤ k → dag_Right.f k nm T = some R) ∧
    (R = 0 → 1 ≤ T.length ∧ T.length ≤ 10 ∧ 1 ≤ nm.size ∧ nm.size ≤ 16 ∧ T.all (taskB (T.length : Int)) = true) := by
  by_cases h : T.all (taskB (T.length : Int)) = true ∧ 1 ≤ T.length ∧ T.length ≤ 10 ∧ 1 ≤ nm.size ∧ nm.size ≤ 16
  · obtain ⟨h5, h1, h2, h3, h4⟩ := h
    obtain ⟨R, _, hR, _⟩ := right_ex nm T (fun t ht => by have := (task_by (by omega) h1 (List.all_eq_true.1 h5 t ht)).2; omega) (by omega)
    exact ⟨R, fun k hk => hR k (by omega), fun _ => ⟨h1, h2, h3, h4, h5⟩⟩
  · unfold dag_Right.f
    by_cases h1 : 10 < T.length
    · exact ⟨2, fun k hk => by rw [if_pos h1], fun h => by simp at h⟩
    by_cases h2 : T.length < 1
    · exact ⟨1, fun k hk => by rw [if_neg h1, if_pos h2], fun h => by simp at h⟩
    by_cases h3 : nm.size < 1
    · exact ⟨1, fun k hk => by rw [if_neg h1, if_neg h2, if_pos h3], fun h => by simp at h⟩
    by_cases h4 : 16 < nm.size
    · exact ⟨1, fun k hk => by rw [if_neg h1, if_neg h2, if_neg h3, if_pos h4], fun h => by simp at h⟩
    cases h5 : T.all (taskB (T.length : Int)) with
    | false => exact ⟨1, fun k hk => by rw [if_neg h1, if_neg h2, if_neg h3, if_neg h4, anyT_g _ k hk T hn, h5]; rfl, fun h => by simp at h⟩
    | true => exact absurd ⟨h5, by omega, by omega, by omega, by omega⟩ h
end Go.Proofs.Ytbgmhcefjggpgaa.Pure
