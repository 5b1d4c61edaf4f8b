/- A graph out of bytes: what the code's reading comes to. -/
import Derived.Test.YtbgmhcefjggpgaaByG
namespace Go.Proofs.Ytbgmhcefjggpgaa.Pure
open Go.RowKit Go.Proofs.Ytbgmhcefjggpgaa.X Go.Proofs.YtbgmhcefjggpgaaW.PrintWords Go.Proofs.YtbgmhcefjggpgaaW.PrintLast
set_option linter.unusedVariables false

abbrev at_ (a : ByteArray) (m : Nat) : List UInt8 := a.data.toList.drop m
theorem gv_num (a : ByteArray) (m n : Nat) (hm : m ≤ a.size) : (pNum n (at_ a m) = none ∧ gv a m n = (0, 0, 3)) ∨
    (m + n ≤ a.size ∧ ∃ x : Int, 0 ≤ x ∧ x < 256 ^ n ∧ pNum n (at_ a m) = some (x, at_ a (m + n)) ∧ gv a m n = (x, ((m + n : Nat) : Int), 0)) := by
  unfold pNum gv
  have hl : (at_ a m).length = a.size - m := by rw [List.length_drop, ← Go.Lib.size_eq]
  by_cases h : a.size < m + n
  · left
    rw [if_pos (by omega), if_pos h]
    exact ⟨rfl, rfl⟩
  · right
    have := fld_bd a m n (by omega)
    refine ⟨by omega, fld a m n, this.1, this.2, ?_, by rw [if_neg h]⟩
    rw [if_neg (by omega)]
    simp [fld, List.drop_drop]
theorem num_ok (a : ByteArray) (hs : a.size ≤ 5000) (m n : Nat) (hm : m ≤ a.size) (h1 : 1 ≤ n) (h6 : n ≤ 6) : (pNum n (at_ a m) = none ∧ numberF a (m : Int) 0 (n : Int) = some (0, 0, 3)) ∨
    (m + n ≤ a.size ∧ ∃ x : Int, 0 ≤ x ∧ x < 256 ^ n ∧ pNum n (at_ a m) = some (x, at_ a (m + n)) ∧ numberF a (m : Int) 0 (n : Int) = some (x, ((m + n : Nat) : Int), 0)) := by
  have e : numberF a (m : Int) 0 (n : Int) = some (gv a m n) := by unfold numberF; rw [if_pos rfl, get_in a hs m n hm h1 h6]
  rw [e]
  rcases gv_num a m n hm with ⟨h2, h3⟩ | ⟨h2, x, h3, h4, h5, h6⟩
  · left; exact ⟨h2, by rw [h3]⟩
  · right; exact ⟨h2, x, h3, h4, h5, by rw [h6]⟩
theorem num_bad (a : ByteArray) (p e n : Int) (he : e ≠ 0) : numberF a p e n = some (0, p, e) := by
  unfold numberF; rw [if_neg he]
theorem needs_stop (a : ByteArray) (k : Nat) (c p e : Int) (he : e ≠ 0) (L : List Int) : needsL a (k + 1) c p e L = some (p, e, L) := by
  rw [needsL]
  by_cases h : c > 0
  · rw [if_pos h, if_neg he]
  · rw [if_neg h]
theorem tasks_stop (a : ByteArray) (k : Nat) (c p e : Int) (he : e ≠ 0) (T : List S39) : tasksL a (k + 1) c p e T = some (p, e, T) := by
  rw [tasksL]
  by_cases h : c > 0
  · rw [if_pos h, if_neg he]
  · rw [if_neg h]
theorem needs_ok (a : ByteArray) (hs : a.size ≤ 5000) : ∀ (c m k : Nat) (L : List Int), m ≤ a.size → c ≤ 255 → c + 2 ≤ k → L.length + c ≤ 1000 →
    (pNeeds c (at_ a m) = none ∧ ∃ q L', needsL a k (c : Int) (m : Int) 0 L = some (q, 3, L')) ∨
    (∃ (m' : Nat) (L' : List Int), m' ≤ a.size ∧ pNeeds c (at_ a m) = some (L', at_ a m') ∧ needsL a k (c : Int) (m : Int) 0 L = some ((m' : Int), 0, L ++ L')) := by
  intro c
  induction c with
  | zero =>
    intro m k L hm _ hk _
    obtain ⟨k, rfl⟩ : ∃ q, k = q + 1 := ⟨k - 1, by omega⟩
    right
    exact ⟨m, [], hm, rfl, by rw [needsL, if_neg (by omega), List.append_nil]⟩
  | succ c ih =>
    intro m k L hm hc hk hl
    obtain ⟨k, rfl⟩ : ∃ q, k = q + 2 := ⟨k - 2, by omega⟩
    rw [needsL, if_pos (by omega), if_pos rfl, if_pos ⟨by omega, by omega⟩, pNeeds, show wrap64 (((c + 1 : Nat) : Int) - 1) = (c : Int) by rw [w64_in _ (by omega)]; omega]
    rcases num_ok a hs m 1 hm (by omega) (by omega) with ⟨h1, h2⟩ | ⟨h1, x, h2, h3, h4, h5⟩
    · left
      rw [h1, show ((1 : Nat) : Int) = 1 from rfl] at *
      rw [h2, Option.bind_some]
      exact ⟨rfl, 0, L ++ [0], needs_stop a k _ _ _ (by simp) _⟩
    · rw [show ((1 : Nat) : Int) = 1 from rfl] at h5
      rw [h5, h4, Option.bind_some, Option.bind_some]
      simp only
      rcases ih (m + 1) (k + 1) (L ++ [x]) h1 (by omega) (by omega) (by rw [List.length_append]; simp; omega) with ⟨g1, q, L', g2⟩ | ⟨m', L', g1, g2, g3⟩
      · left
        rw [g1]
        exact ⟨rfl, q, L', g2⟩
      · right
        rw [g2]
        exact ⟨m', x :: L', g1, rfl, by rw [g3]; simp⟩
/-- One task, by the code: what the rounds do. -/
def taskL (a : ByteArray) (k : Nat) (p e : Int) : Option (S39 × Int × Int) :=
  (numberF a p e 1).bind fun c => (needsL a k c.1 c.2.1 c.2.2 []).bind fun b => (numberF a b.1 b.2.1 1).bind fun d => (numberF a d.2.1 d.2.2 3).bind fun e => (numberF a e.2.1 e.2.2 3).bind fun g => some (⟨b.2.2, d.1, e.1, g.1⟩, g.2.1, g.2.2)
theorem tasks_step (a : ByteArray) (k : Nat) (c p : Int) (T : List S39) (h1 : c > 0) (h2 : T.length < 1000000 ∧ c < 1000000000000) : tasksL a (k + 1) c p 0 T = (taskL a k p 0).bind fun t => tasksL a k (wrap64 (c - 1)) t.2.1 t.2.2 (T ++ [t.1]) := by
  rw [tasksL, if_pos h1, if_pos rfl, if_pos h2]
  unfold taskL
  simp only [Option.bind_assoc, Option.bind_some]
theorem task_end_bad (a : ByteArray) (p e : Int) (he : e ≠ 0) (L : List Int) : ((numberF a p e 1).bind fun d => (numberF a d.2.1 d.2.2 3).bind fun e => (numberF a e.2.1 e.2.2 3).bind fun g => some ((⟨L, d.1, e.1, g.1⟩ : S39), g.2.1, g.2.2)) = some (⟨L, 0, 0, 0⟩, p, e) := by
  rw [num_bad a p e 1 he, Option.bind_some, num_bad a p e 3 he, Option.bind_some, num_bad a p e 3 he, Option.bind_some]
theorem task_ok (a : ByteArray) (hs : a.size ≤ 5000) (m k : Nat) (hm : m ≤ a.size) (hk : 300 ≤ k) :
    (pTask (at_ a m) = none ∧ ∃ t q, taskL a k (m : Int) 0 = some (t, q, 3)) ∨ (∃ (m' : Nat) (t : S39), m' ≤ a.size ∧ pTask (at_ a m) = some (t, at_ a m') ∧ taskL a k (m : Int) 0 = some (t, (m' : Int), 0)) := by
  unfold taskL pTask
  obtain ⟨k', hk'⟩ : ∃ q, k = q + 1 := ⟨k - 1, by omega⟩
  rcases num_ok a hs m 1 hm (by omega) (by omega) with ⟨h1, h2⟩ | ⟨h1, x, h2, h3, h4, h5⟩
  · left
    rw [show ((1 : Nat) : Int) = 1 from rfl] at h2
    rw [h1, h2, Option.bind_some]
    simp only
    rw [hk', needs_stop a k' _ _ _ (by simp), Option.bind_some]
    simp only
    rw [task_end_bad a _ _ (by simp)]
    exact ⟨rfl, _, _, rfl⟩
  rw [show ((1 : Nat) : Int) = 1 from rfl] at h5
  rw [h5, h4, Option.bind_some, Option.bind_some]
  simp only
  obtain ⟨c, rfl⟩ : ∃ n : Nat, x = n := ⟨x.toNat, by omega⟩
  rw [Int.toNat_natCast]
  rcases needs_ok a hs c (m + 1) k [] h1 (by omega) (by omega) (by simp; omega) with ⟨g1, q, L', g2⟩ | ⟨m2, L, g1, g2, g3⟩
  · left
    rw [g1, g2, Option.bind_some]
    simp only
    rw [task_end_bad a _ _ (by simp)]
    exact ⟨rfl, _, _, rfl⟩
  rw [g2, g3, Option.bind_some, Option.bind_some, List.nil_append]
  simp only
  rcases num_ok a hs m2 1 g1 (by omega) (by omega) with ⟨h1, h2⟩ | ⟨h1, d, h2, h3, h4, h5⟩
  · left
    rw [show ((1 : Nat) : Int) = 1 from rfl] at h2
    rw [h1, h2, Option.bind_some]
    simp only
    rw [num_bad a _ _ 3 (by simp), Option.bind_some, num_bad a _ _ 3 (by simp), Option.bind_some]
    exact ⟨rfl, _, _, rfl⟩
  rw [show ((1 : Nat) : Int) = 1 from rfl] at h5
  rw [h5, h4, Option.bind_some, Option.bind_some]
  simp only
  rcases num_ok a hs (m2 + 1) 3 h1 (by omega) (by omega) with ⟨i1, i2⟩ | ⟨i1, e, i2, i3, i4, i5⟩
  · left
    rw [show ((3 : Nat) : Int) = 3 from rfl] at i2
    rw [i1, i2, Option.bind_some]
    simp only
    rw [num_bad a _ _ 3 (by simp), Option.bind_some]
    exact ⟨rfl, _, _, rfl⟩
  rw [show ((3 : Nat) : Int) = 3 from rfl] at i5
  rw [i5, i4, Option.bind_some, Option.bind_some]
  simp only
  rcases num_ok a hs (m2 + 1 + 3) 3 i1 (by omega) (by omega) with ⟨j1, j2⟩ | ⟨j1, g, j2, j3, j4, j5⟩
  · left
    rw [show ((3 : Nat) : Int) = 3 from rfl] at j2
    rw [j1, j2, Option.bind_some]
    exact ⟨rfl, _, _, rfl⟩
  right
  rw [show ((3 : Nat) : Int) = 3 from rfl] at j5
  rw [j5, j4]
  exact ⟨m2 + 1 + 3 + 3, _, j1, rfl, rfl⟩
theorem tasks_ok (a : ByteArray) (hs : a.size ≤ 5000) : ∀ (c m k : Nat) (T : List S39), m ≤ a.size → c ≤ 255 → c + 302 ≤ k → T.length + c ≤ 1000 →
    (pTasks c (at_ a m) = none ∧ ∃ q T', tasksL a k (c : Int) (m : Int) 0 T = some (q, 3, T')) ∨
    (∃ (m' : Nat) (T' : List S39), m' ≤ a.size ∧ pTasks c (at_ a m) = some (T', at_ a m') ∧ tasksL a k (c : Int) (m : Int) 0 T = some ((m' : Int), 0, T ++ T')) := by
  intro c
  induction c with
  | zero =>
    intro m k T hm _ hk _
    obtain ⟨k, rfl⟩ : ∃ q, k = q + 1 := ⟨k - 1, by omega⟩
    right
    exact ⟨m, [], hm, rfl, by rw [tasksL, if_neg (by omega), List.append_nil]⟩
  | succ c ih =>
    intro m k T hm hc hk hl
    obtain ⟨k, rfl⟩ : ∃ q, k = q + 2 := ⟨k - 2, by omega⟩
    rw [tasks_step a (k + 1) _ _ T (by omega) ⟨by omega, by omega⟩, pTasks, show wrap64 (((c + 1 : Nat) : Int) - 1) = (c : Int) by rw [w64_in _ (by omega)]; omega]
    rcases task_ok a hs m (k + 1) hm (by omega) with ⟨h1, t, q, h2⟩ | ⟨m1, t, h1, h2, h3⟩
    · left
      rw [h1, h2, Option.bind_some]
      exact ⟨rfl, q, T ++ [t], tasks_stop a k _ _ _ (by simp) _⟩
    · rw [h2, h3, Option.bind_some, Option.bind_some]
      simp only
      rcases ih m1 (k + 1) (T ++ [t]) h1 (by omega) (by omega) (by rw [List.length_append]; simp; omega) with ⟨g1, q, L', g2⟩ | ⟨m', T', g1, g2, g3⟩
      · left
        rw [g1]
        exact ⟨rfl, q, L', g2⟩
      · right
        rw [g2]
        exact ⟨m', t :: T', g1, rfl, by rw [g3]; simp⟩
/-- A graph as it stands in the bytes, and what is behind it. -/
def parse (a : ByteArray) : Option (ByteArray × List S39 × List UInt8) :=
  if (cutOf a 0).2.2 = 0 then (pNum 1 (at_ a (cutOf a 0).2.1.toNat)).bind fun n => (pTasks n.1.toNat n.2).map fun T => ((cutOf a 0).1, T.1, T.2) else none
/-- What both tell of a graph that was read. -/
def rightV (nm : ByteArray) (T : List S39) : Int := (dag_Right.f 1002 nm T).getD 0
def getV (a : ByteArray) : ByteArray × List S39 × Int :=
  match parse a with
  | none => (⟨#[]⟩, [], 3)
  | some (nm, T, r) => if r = [] then (if rightV nm T = 0 then (nm, T, 0) else (⟨#[]⟩, [], rightV nm T)) else (⟨#[]⟩, [], 4)
theorem rightV_of (nm : ByteArray) (T : List S39) (hn : ∀ t ∈ T, t.f0.length ≤ 1000) (k : Nat) (hk : 1002 ≤ k) : dag_Right.f k nm T = some (rightV nm T) := by
  obtain ⟨R, hR, _⟩ := right_any nm T hn
  unfold rightV
  rw [hR k hk, hR 1002 (by omega)]
  rfl
theorem rightV_zero (nm : ByteArray) (T : List S39) (hn : ∀ t ∈ T, t.f0.length ≤ 1000) (h : rightV nm T = 0) : 1 ≤ T.length ∧ T.length ≤ 10 ∧ 1 ≤ nm.size ∧ nm.size ≤ 16 ∧ T.all (taskB (T.length : Int)) = true := by
  obtain ⟨R, hR, hz⟩ := right_any nm T hn
  have := rightV_of nm T hn 1002 (by omega)
  rw [hR 1002 (by omega)] at this
  exact hz (by rw [Option.some.inj this]; exact h)
theorem drop_nil (a : ByteArray) (m : Nat) (hm : m ≤ a.size) : at_ a m = [] ↔ (m : Int) = (a.size : Int) := by
  have hl : (at_ a m).length = a.size - m := by rw [List.length_drop, ← Go.Lib.size_eq]
  rw [← List.length_eq_zero_iff]
  omega
theorem get_f (k : Nat) (hk : 2000 ≤ k) (a : ByteArray) (hs : a.size ≤ 5000) : dag_Get.f k a = some (getV a) := by
  unfold dag_Get.f getV parse
  rw [show P.code_Cut.f a 0 = some (cutOf a 0) from cut_in a hs 0 (by omega), Option.bind_some]
  obtain ⟨k', hk'⟩ : ∃ q, k = q + 1 := ⟨k - 1, by omega⟩
  rcases cut_cases a 0 (by omega) with h1 | ⟨t, ht, hp, h1, _⟩
  · rw [h1]
    simp only
    rw [num_bad a _ _ 1 (by simp), Option.bind_some]
    simp only
    rw [hk', tasks_stop a k' _ _ _ (by simp), Option.bind_some]
    rfl
  rw [h1]
  simp only [if_true]
  rw [Int.toNat_natCast]
  generalize 0 + 2 + t.size = m at *
  rcases num_ok a hs m 1 hp (by omega) (by omega) with ⟨h1, h2⟩ | ⟨h1, x, h2, h3, h4, h5⟩
  · rw [show ((1 : Nat) : Int) = 1 from rfl] at h2
    rw [h1, h2, Option.bind_some]
    simp only
    rw [hk', tasks_stop a k' _ _ _ (by simp), Option.bind_some]
    rfl
  rw [show ((1 : Nat) : Int) = 1 from rfl] at h5
  rw [h5, h4, Option.bind_some, Option.bind_some]
  simp only
  obtain ⟨c, rfl⟩ : ∃ n : Nat, x = n := ⟨x.toNat, by omega⟩
  rw [Int.toNat_natCast]
  rcases tasks_ok a hs c (m + 1) k [] h1 (by omega) (by omega) (by simp; omega) with ⟨g1, q, T', g2⟩ | ⟨m', T, g1, g2, g3⟩
  · rw [g1, g2, Option.bind_some]
    rfl
  rw [g2, g3, Option.bind_some, List.nil_append]
  simp only [Option.map_some, if_true]
  have hn := (tasks_inv _ _ _ _ g2).2.2
  by_cases he : (m' : Int) = (a.size : Int)
  · rw [if_pos he, if_pos ((drop_nil a m' g1).2 he), rightV_of t T (fun y hy => by have := hn y hy; omega) k (by omega), Option.bind_some]
    split <;> rfl
  · rw [if_neg he, if_neg (fun h => he ((drop_nil a m' g1).1 h))]
/-- What was put is read. -/
theorem parse_of (nm : ByteArray) (T : List S39) (hn : nm.size ≤ 16) (hl : T.length ≤ 255) (hT : ∀ t ∈ T, byT t) : parse (mkB (dagB nm T)) = some (nm, T, []) := by
  obtain ⟨h1, h2, h3⟩ := cut_back (mkB (dagB nm T)) nm 0 (ub (T.length : Int) :: T.flatMap taskBy) (by omega) (by rw [mkB_list]; rfl)
  unfold parse
  rw [h2]
  simp only [if_true]
  rw [Int.toNat_natCast]
  unfold at_
  rw [h3, num1_of _ (by omega) (by omega), Option.bind_some]
  simp only
  have := tasks_of T [] hT
  rw [List.append_nil] at this
  rw [Int.toNat_natCast, this]
  rfl
/-- What is read is as it is put. -/
theorem parse_inv (a nm : ByteArray) (T : List S39) (h : parse a = some (nm, T, [])) : a = mkB (dagB nm T) ∧ ∀ t ∈ T, t.f0.length ≤ 255 := by
  unfold parse at h
  by_cases h0 : (cutOf a 0).2.2 = 0
  case neg => rw [if_neg h0] at h; cases h
  rw [if_pos h0] at h
  rcases cut_cases a 0 (by omega) with h1 | ⟨t, ht, hp, h1, h2⟩
  · rw [h1] at h0; simp at h0
  rw [h1] at h
  simp only at h
  rw [Int.toNat_natCast] at h
  obtain ⟨⟨x, l⟩, h3, h4⟩ := Option.bind_eq_some_iff.1 h
  obtain ⟨⟨T1, r⟩, h5, h6⟩ := Option.map_eq_some_iff.1 h4
  simp only [Prod.mk.injEq] at h6
  obtain ⟨rfl, rfl, rfl⟩ := h6
  obtain ⟨i1, i2⟩ := num1_inv h3
  obtain ⟨j1, j2, j3⟩ := tasks_inv _ _ _ _ h5
  refine ⟨?_, j3⟩
  rw [← mkB_of a]
  congr 1
  rw [List.drop_zero] at h2
  unfold at_ at i1
  simp only at j1
  rw [h2, i1, j1]
  unfold dagB
  rw [j2, Int.toNat_of_nonneg i2.1, List.append_nil]
end Go.Proofs.Ytbgmhcefjggpgaa.Pure
