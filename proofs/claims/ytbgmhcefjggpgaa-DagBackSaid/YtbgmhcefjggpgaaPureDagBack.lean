/- The pure statement of DagBack: what is put is got again, and what is got, put, is the bytes. -/
import Derived.Test.YtbgmhcefjggpgaaSayDagBack
import Derived.Test.YtbgmhcefjggpgaaByV
import Derived.Test.YtbgmhcefjggpgaaXx8
import Derived.Test.YtbgmhcefjggpgaaXx20
import Derived.Test.YtbgmhcefjggpgaaXx22
namespace Go.Proofs.Ytbgmhcefjggpgaa.Pure
open Go.RowKit Go.Proofs.Ytbgmhcefjggpgaa.X Go.Proofs.YtbgmhcefjggpgaaW.PrintWords Go.Proofs.YtbgmhcefjggpgaaW.PrintLast
set_option linter.unusedVariables false

theorem rdT {T : List S39} {i : Nat} (h : i < T.length) : rd_T39 T (i : Int) = T[i] := by simp [rd_T39, List.getD_eq_getElem?_getD, List.getElem?_eq_getElem h]
theorem wi (i : Nat) (h : i < 100000) : wrap64 ((i : Int) + 1) = ((i + 1 : Nat) : Int) := by rw [w64_in _ (by omega)]; omega
theorem same_l (x : List Int) (hx : x.length ≤ 1000) : ∀ m i k, i + m = x.length → m + 1 ≤ k → peneloperef16_SameInts.l0 k x x (x.length : Int) (i : Int) = some true := by
  intro m
  induction m with
  | zero =>
    intro i k hi hk
    obtain ⟨k, rfl⟩ : ∃ q, k = q + 1 := ⟨k - 1, by omega⟩
    rw [peneloperef16_SameInts.l0, if_neg (by omega)]
  | succ m ih =>
    intro i k hi hk
    obtain ⟨k, rfl⟩ : ∃ q, k = q + 1 := ⟨k - 1, by omega⟩
    rw [peneloperef16_SameInts.l0, if_pos (by omega), if_pos (by omega), if_pos (by omega), if_pos (by omega), if_pos rfl, wi i (by omega), ih (i + 1) k (by omega) (by omega)]
theorem same_self (k : Nat) (hk : 1002 ≤ k) (x : List Int) (hx : x.length ≤ 1000) : peneloperef16_SameInts.f k x x = some true := by
  unfold peneloperef16_SameInts.f
  rw [if_pos rfl, show (0 : Int) = ((0 : Nat) : Int) from rfl, same_l x hx x.length 0 k (by omega) (by omega)]
theorem like_l (nm nm' : ByteArray) (T : List S39) (hl : T.length ≤ 1000) (hT : ∀ t ∈ T, t.f0.length ≤ 1000) : ∀ m i k, i + m = T.length → m + 1010 ≤ k → peneloperef16_Like.l0 k T (T.length : Int) (i : Int) nm T = some true := by
  intro m
  induction m with
  | zero =>
    intro i k hi hk
    obtain ⟨k, rfl⟩ : ∃ q, k = q + 1 := ⟨k - 1, by omega⟩
    rw [peneloperef16_Like.l0, if_neg (by omega)]
  | succ m ih =>
    intro i k hi hk
    obtain ⟨k, rfl⟩ : ∃ q, k = q + 1 := ⟨k - 1, by omega⟩
    rw [peneloperef16_Like.l0, if_pos (by omega), if_pos (by omega), if_pos (by omega), if_pos (by omega), rdT (show i < T.length by omega), same_self k (by omega) _ (hT _ (List.getElem_mem _)), Option.bind_some, if_pos rfl, if_pos rfl, if_pos rfl, if_pos rfl, wi i (by omega)]
    exact ih (i + 1) k (by omega) (by omega)
theorem like_self (k : Nat) (hk : 2020 ≤ k) (nm : ByteArray) (T : List S39) (hl : T.length ≤ 1000) (hT : ∀ t ∈ T, t.f0.length ≤ 1000) : peneloperef16_Like.f k nm T nm T = some true := by
  unfold peneloperef16_Like.f
  obtain ⟨k, rfl⟩ : ∃ q, k = q + 1 := ⟨k - 1, by omega⟩
  rw [if_pos rfl, show ((T.length : Int) != (T.length : Int)) = false by simp, peneloperef16_Like.j0, if_neg (by simp)]
  exact like_l nm nm T hl hT T.length 0 k (by omega) (by omega)
theorem put_bad (nm : ByteArray) (T : List S39) (k : Nat) (R : Int) (hR : dag_Right.f k nm T = some R) (h : R ≠ 0) : dag_Put.f k nm T = some (⟨#[]⟩, R) := by
  unfold dag_Put.f
  rw [hR, Option.bind_some, if_neg h]
theorem getV_cases (a : ByteArray) : (∃ nm T, getV a = (nm, T, 0) ∧ parse a = some (nm, T, []) ∧ rightV nm T = 0) ∨ ∃ e, e ≠ 0 ∧ getV a = (⟨#[]⟩, [], e) := by
  unfold getV
  cases h : parse a with
  | none => exact .inr ⟨3, by simp, rfl⟩
  | some x =>
    obtain ⟨nm, T, r⟩ := x
    simp only
    by_cases h1 : r = []
    · subst h1
      rw [if_pos rfl]
      by_cases h2 : rightV nm T = 0
      · rw [if_pos h2]; exact .inl ⟨nm, T, rfl, rfl, h2⟩
      · rw [if_neg h2]; exact .inr ⟨_, h2, rfl⟩
    · rw [if_neg h1]; exact .inr ⟨4, by simp, rfl⟩
theorem back_j (k : Nat) (hk : 3000 ≤ k) (a : ByteArray) (hs : a.size ≤ 5000) : penelopelaw16_DagBack.j0 k a = some true := by
  obtain ⟨k, rfl⟩ : ∃ q, k = q + 1 := ⟨k - 1, by omega⟩
  rw [penelopelaw16_DagBack.j0, get_f k (by omega) a hs, Option.bind_some, alive_f k (by omega)]
  rcases getV_cases a with ⟨nm, T, h1, h2, h3⟩ | ⟨e, he, h1⟩
  · obtain ⟨ha, hn⟩ := parse_inv a nm T h2
    have hn' : ∀ t ∈ T, t.f0.length ≤ 1000 := fun t ht => by have := hn t ht; omega
    obtain ⟨c1, c2, c3, c4, c5⟩ := rightV_zero nm T hn' h3
    have hr := rightV_of nm T hn' k (by omega)
    rw [h3] at hr
    rw [h1]
    simp only
    rw [if_pos trivial, put_f nm T k (by omega) hr c2 c1 c4 c5, Option.bind_some, Option.bind_some, if_pos rfl, hr, if_pos rfl]
    simp only
    rw [if_pos (by rw [← ha]), Option.bind_some]
    rfl
  · rw [h1]
    simp only
    rw [if_neg he, Option.bind_some, if_pos rfl, like_self k (by omega) _ _ (by simp) (by simp), Option.bind_some]
theorem cut2000 (a : ByteArray) : 0 ≤ mn (a.size : Int) 2000 ∧ mn (a.size : Int) 2000 ≤ a.size ∧ (a.extract 0 (mn (a.size : Int) 2000).toNat).size ≤ 5000 := by
  have h : 0 ≤ mn (a.size : Int) 2000 ∧ mn (a.size : Int) 2000 ≤ a.size ∧ mn (a.size : Int) 2000 ≤ 2000 := by
    unfold mn
    split <;> omega
  refine ⟨h.1, h.2.1, ?_⟩
  rw [ByteArray.size_extract]
  omega
theorem DagBack : penelopelaw16_DagBack.Pure := by
  intro x0 a1 _ _
  obtain ⟨nm, T⟩ := x0
  simp only
  refine ⟨5000, ?_⟩
  obtain ⟨hl, hn⟩ := few_ok T
  unfold penelopelaw16_DagBack.f penelopelaw16_few.f
  rw [Option.bind_some]
  simp only
  generalize (T.take 20).map cutT = T at *
  obtain ⟨m1, m2, m3⟩ := cut2000 a1
  rw [if_pos m1, if_pos m2, back_j 5000 (by omega) _ m3]
  have hn' : ∀ t ∈ T, t.f0.length ≤ 1000 := fun t ht => by have := hn t ht; omega
  have hr := rightV_of nm T hn' 5000 (by omega)
  by_cases h : rightV nm T = 0
  · obtain ⟨c1, c2, c3, c4, c5⟩ := rightV_zero nm T hn' h
    rw [h] at hr
    have hlen := dagB_len nm T c2 c1 c4 c5
    have hT : ∀ t ∈ T, byT t := fun t ht => (task_by (by omega) c1 (List.all_eq_true.1 c5 t ht)).1
    have hg : dag_Get.f 5000 (mkB (dagB nm T)) = some (nm, T, 0) := by
      rw [get_f 5000 (by omega) _ (by rw [mkB_size]; omega)]
      unfold getV
      rw [parse_of nm T c4 (by omega) hT]
      simp only
      rw [if_pos trivial, if_pos h]
    rw [put_f nm T 5000 (by omega) hr c2 c1 c4 c5, Option.bind_some, if_pos rfl]
    simp only
    rw [hg, Option.bind_some, if_pos rfl]
    simp only
    rw [like_self 5000 (by omega) nm T (by omega) hn', Option.bind_some, if_pos rfl, if_neg (by rw [mkB_size]; omega)]
  · rw [put_bad nm T 5000 _ hr h, Option.bind_some, if_neg h]
end Go.Proofs.Ytbgmhcefjggpgaa.Pure
