/- Nodes parted and put together: the plain value of what the code computes (node.Cut, node.Join). -/
import Derived.Test.YtmnkabdaapiikaaBaseC
import Derived.Test.YtmnkabdaapiikaaXCut
import Derived.Test.YtmnkabdaapiikaaXJoin
import Derived.Test.YtmnkabdaapiikaaCx6
namespace Go.Proofs.Ytmnkabdaapiikaa.Pure
open Go.RowKit Go.Proofs.Ytmnkabdaapiikaa.C Go.Proofs.YtmnkabdaapiikaaW.PrintWords Go.Proofs.YtmnkabdaapiikaaW.PrintLast
set_option linter.unusedVariables false

theorem same_l (x : List ByteArray) (hx : x.length ≤ 1000) : ∀ m i k, i + m = x.length → m + 1 ≤ k → peneloperef07_same.l0 k x x (x.length : Int) (i : Int) = some true := by
  intro m
  induction m with
  | zero =>
    intro i k hi hk
    obtain ⟨k, rfl⟩ : ∃ q, k = q + 1 := ⟨k - 1, by omega⟩
    rw [peneloperef07_same.l0, if_neg (by omega)]
  | succ m ih =>
    intro i k hi hk
    obtain ⟨k, rfl⟩ : ∃ q, k = q + 1 := ⟨k - 1, by omega⟩
    rw [peneloperef07_same.l0, if_pos (by omega), if_pos (by omega), if_pos (by omega), if_pos (by omega), if_pos rfl, show wrap64 ((i : Int) + 1) = ((i + 1 : Nat) : Int) by rw [w64_in _ (by omega)]; omega, ih (i + 1) k (by omega) (by omega)]
theorem same_self (k : Nat) (hk : 1002 ≤ k) (x : List ByteArray) (hx : x.length ≤ 1000) : peneloperef07_same.f k x x = some true := by
  unfold peneloperef07_same.f
  rw [if_pos rfl, show (0 : Int) = ((0 : Nat) : Int) from rfl, same_l x hx x.length 0 k (by omega) (by omega)]
theorem like_l (l : Bool) (K V : List ByteArray) (C : List Int) (hx : C.length ≤ 1000) : ∀ m i k, i + m = C.length → m + 1 ≤ k → peneloperef07_Like.l0 k (C.length : Int) (i : Int) l K V C l K V C = some true := by
  intro m
  induction m with
  | zero =>
    intro i k hi hk
    obtain ⟨k, rfl⟩ : ∃ q, k = q + 1 := ⟨k - 1, by omega⟩
    rw [peneloperef07_Like.l0, if_neg (by omega)]
  | succ m ih =>
    intro i k hi hk
    obtain ⟨k, rfl⟩ : ∃ q, k = q + 1 := ⟨k - 1, by omega⟩
    rw [peneloperef07_Like.l0, if_pos (by omega), if_pos (by omega), if_pos (by omega), if_pos (by omega), if_pos rfl, show wrap64 ((i : Int) + 1) = ((i + 1 : Nat) : Int) by rw [w64_in _ (by omega)]; omega, ih (i + 1) k (by omega) (by omega)]
theorem like_self (k : Nat) (hk : 2000 ≤ k) (l : Bool) (K V : List ByteArray) (C : List Int) (h1 : K.length ≤ 1000) (h2 : V.length ≤ 1000) (h3 : C.length ≤ 1000) : peneloperef07_Like.f k l K V C l K V C = some true := by
  obtain ⟨k, rfl⟩ : ∃ q, k = q + 1 := ⟨k - 1, by omega⟩
  unfold peneloperef07_Like.f
  rw [if_neg (by simp), same_self (k + 1) (by omega) K h1, Option.bind_some, if_pos rfl, same_self (k + 1) (by omega) V h2, Option.bind_some, if_pos rfl, peneloperef07_Like.j0, if_neg (by simp), show (0 : Int) = ((0 : Nat) : Int) from rfl]
  exact like_l l K V C h3 C.length 0 k (by omega) (by omega)

/-! rows one behind the other -/
theorem cat_s1 (X : List (List ByteArray)) (hn : X.length ≤ 5) (hx : ∀ x ∈ X, x.length ≤ 1000) : ∀ m i k (o : List ByteArray), i + m = X.length → m + 1 ≤ k → o.length ≤ 1000 * i →
    slices_Concat_string_string.l1 k o X (X.length : Int) (i : Int) = some (o ++ (X.drop i).flatten) := by
  intro m
  induction m with
  | zero =>
    intro i k o hi hk ho
    obtain ⟨k, rfl⟩ : ∃ q, k = q + 1 := ⟨k - 1, by omega⟩
    rw [slices_Concat_string_string.l1, if_neg (by omega), List.drop_eq_nil_of_le (by omega)]
    simp
  | succ m ih =>
    intro i k o hi hk ho
    obtain ⟨k, rfl⟩ : ∃ q, k = q + 1 := ⟨k - 1, by omega⟩
    have e : K.rd_L1 X (i : Int) = X[i]'(by omega) := by simp [K.rd_L1, List.getD_eq_getElem?_getD, List.getElem?_eq_getElem (show i < X.length by omega)]
    have hl := hx (X[i]'(by omega)) (List.getElem_mem _)
    rw [slices_Concat_string_string.l1, e, if_pos (by omega), if_pos (by omega), if_pos (by omega), if_pos (by omega), show wrap64 ((i : Int) + 1) = ((i + 1 : Nat) : Int) by rw [w64_in _ (by omega)]; omega,
      ih (i + 1) k _ (by omega) (by omega) (by rw [List.length_append]; omega), List.drop_eq_getElem_cons (show i < X.length by omega), List.flatten_cons, List.append_assoc]
theorem cat_s0 (X : List (List ByteArray)) (hn : X.length ≤ 5) (hx : ∀ x ∈ X, x.length ≤ 1000) : ∀ m i k (t : Int), i + m = X.length → m + X.length + 3 ≤ k → 0 ≤ t → t ≤ 1000 * i →
    slices_Concat_string_string.l0 k X t X (X.length : Int) (i : Int) = some X.flatten := by
  intro m
  induction m with
  | zero =>
    intro i k t hi hk h0 ht
    obtain ⟨k, rfl⟩ : ∃ q, k = q + 1 := ⟨k - 1, by omega⟩
    rw [slices_Concat_string_string.l0, if_neg (by omega), if_pos (by omega), show (0 : Int) = ((0 : Nat) : Int) from rfl, cat_s1 X hn hx X.length 0 k [] (by omega) (by omega) (by simp)]
    simp
  | succ m ih =>
    intro i k t hi hk h0 ht
    obtain ⟨k, rfl⟩ : ∃ q, k = q + 1 := ⟨k - 1, by omega⟩
    have e : K.rd_L1 X (i : Int) = X[i]'(by omega) := by simp [K.rd_L1, List.getD_eq_getElem?_getD, List.getElem?_eq_getElem (show i < X.length by omega)]
    have hl := hx (X[i]'(by omega)) (List.getElem_mem _)
    rw [slices_Concat_string_string.l0, e, if_pos (by omega), if_pos (by omega), if_pos (by omega), w64_in (t + _) (by omega), if_neg (by omega), show wrap64 ((i : Int) + 1) = ((i + 1 : Nat) : Int) by rw [w64_in _ (by omega)]; omega,
      ih (i + 1) k _ (by omega) (by omega) (by omega) (by omega)]
theorem cat_s (X : List (List ByteArray)) (hn : X.length ≤ 5) (hx : ∀ x ∈ X, x.length ≤ 1000) (k : Nat) (hk : 20 ≤ k) : node_rows_string.f k X = some X.flatten := by
  unfold node_rows_string.f slices_Concat_string_string.f
  rw [show (0 : Int) = ((0 : Nat) : Int) from rfl, cat_s0 X hn hx X.length 0 k _ (by omega) (by omega) (by omega) (by omega), Option.bind_some]
theorem cat_i1 (X : List (List Int)) (hn : X.length ≤ 5) (hx : ∀ x ∈ X, x.length ≤ 1000) : ∀ m i k (o : List Int), i + m = X.length → m + 1 ≤ k → o.length ≤ 1000 * i →
    slices_Concat_int_int.l1 k o X (X.length : Int) (i : Int) = some (o ++ (X.drop i).flatten) := by
  intro m
  induction m with
  | zero =>
    intro i k o hi hk ho
    obtain ⟨k, rfl⟩ : ∃ q, k = q + 1 := ⟨k - 1, by omega⟩
    rw [slices_Concat_int_int.l1, if_neg (by omega), List.drop_eq_nil_of_le (by omega)]
    simp
  | succ m ih =>
    intro i k o hi hk ho
    obtain ⟨k, rfl⟩ : ∃ q, k = q + 1 := ⟨k - 1, by omega⟩
    have e : K.rd_L4 X (i : Int) = X[i]'(by omega) := by simp [K.rd_L4, List.getD_eq_getElem?_getD, List.getElem?_eq_getElem (show i < X.length by omega)]
    have hl := hx (X[i]'(by omega)) (List.getElem_mem _)
    rw [slices_Concat_int_int.l1, e, if_pos (by omega), if_pos (by omega), if_pos (by omega), if_pos (by omega), show wrap64 ((i : Int) + 1) = ((i + 1 : Nat) : Int) by rw [w64_in _ (by omega)]; omega,
      ih (i + 1) k _ (by omega) (by omega) (by rw [List.length_append]; omega), List.drop_eq_getElem_cons (show i < X.length by omega), List.flatten_cons, List.append_assoc]
theorem cat_i0 (X : List (List Int)) (hn : X.length ≤ 5) (hx : ∀ x ∈ X, x.length ≤ 1000) : ∀ m i k (t : Int), i + m = X.length → m + X.length + 3 ≤ k → 0 ≤ t → t ≤ 1000 * i →
    slices_Concat_int_int.l0 k X t X (X.length : Int) (i : Int) = some X.flatten := by
  intro m
  induction m with
  | zero =>
    intro i k t hi hk h0 ht
    obtain ⟨k, rfl⟩ : ∃ q, k = q + 1 := ⟨k - 1, by omega⟩
    rw [slices_Concat_int_int.l0, if_neg (by omega), if_pos (by omega), show (0 : Int) = ((0 : Nat) : Int) from rfl, cat_i1 X hn hx X.length 0 k [] (by omega) (by omega) (by simp)]
    simp
  | succ m ih =>
    intro i k t hi hk h0 ht
    obtain ⟨k, rfl⟩ : ∃ q, k = q + 1 := ⟨k - 1, by omega⟩
    have e : K.rd_L4 X (i : Int) = X[i]'(by omega) := by simp [K.rd_L4, List.getD_eq_getElem?_getD, List.getElem?_eq_getElem (show i < X.length by omega)]
    have hl := hx (X[i]'(by omega)) (List.getElem_mem _)
    rw [slices_Concat_int_int.l0, e, if_pos (by omega), if_pos (by omega), if_pos (by omega), w64_in (t + _) (by omega), if_neg (by omega), show wrap64 ((i : Int) + 1) = ((i + 1 : Nat) : Int) by rw [w64_in _ (by omega)]; omega,
      ih (i + 1) k _ (by omega) (by omega) (by omega) (by omega)]
theorem cat_i (X : List (List Int)) (hn : X.length ≤ 5) (hx : ∀ x ∈ X, x.length ≤ 1000) (k : Nat) (hk : 20 ≤ k) : node_rows_int.f k X = some X.flatten := by
  unfold node_rows_int.f slices_Concat_int_int.f
  rw [show (0 : Int) = ((0 : Nat) : Int) from rfl, cat_i0 X hn hx X.length 0 k _ (by omega) (by omega) (by omega) (by omega), Option.bind_some]
theorem all1 {α : Type} {x : List α} (h : x.length ≤ 1000) : ∀ y ∈ [x], y.length ≤ 1000 := by simp [h]
theorem all2_ {α : Type} {x y : List α} (h : x.length ≤ 1000) (h2 : y.length ≤ 1000) : ∀ z ∈ [x, y], z.length ≤ 1000 := by simp [h, h2]
theorem all3 {α : Type} {x y z : List α} (h : x.length ≤ 1000) (h2 : y.length ≤ 1000) (h3 : z.length ≤ 1000) : ∀ u ∈ [x, y, z], u.length ≤ 1000 := by simp [h, h2, h3]

/-- What a node's parts are. -/
abbrev CutV := Bool × List ByteArray × List ByteArray × List Int × ByteArray × Bool × List ByteArray × List ByteArray × List Int × Int
def cutV (lf : Bool) (K V : List ByteArray) (C : List Int) : CutV :=
  if standsB lf K V C = true ∧ K.length = 9 then (if lf = true then (true, K.take 4, V.take 4, [], key K 4, true, K.drop 4, V.drop 4, [], 0) else (false, K.take 4, [], C.take 5, key K 4, false, K.drop 5, [], C.drop 5, 0)) else (false, [], [], [], ⟨#[]⟩, false, [], [], [], 1)
theorem cut_f (lf : Bool) (K V : List ByteArray) (C : List Int) (hk : K.length ≤ 40) (hv : V.length ≤ 40) (hc : C.length ≤ 40) (k : Nat) (h : 100 ≤ k) : node_Cut.f k lf K V C = some (cutV lf K V C) := by
  unfold node_Cut.f cutV
  rw [node_stands_f lf K V C (by omega) (by omega) k (by omega), Option.bind_some]
  cases hs : standsB lf K V C
  · simp
  by_cases h9 : K.length = 9
  case neg => rw [if_pos rfl, if_neg h9, if_neg (by simp [h9])]
  rw [if_pos rfl, if_pos h9, if_pos (show true = true ∧ K.length = 9 from ⟨rfl, h9⟩)]
  obtain ⟨_, _, _, h4, h5⟩ := stands_of hs
  have e4 : rdOf ByteArray.empty K 4 = key K 4 := rdOf_nat K 4
  have lt : ∀ {α : Type} (l : List α) (n : Nat), l.length ≤ 40 → (l.take n).length ≤ 1000 := fun l n hl => by rw [List.length_take]; omega
  have ld : ∀ {α : Type} (l : List α) (n : Nat), l.length ≤ 40 → (l.drop n).length ≤ 1000 := fun l n hl => by rw [List.length_drop]; omega
  cases lf
  · obtain ⟨_, _, hcl, _⟩ := h5 rfl
    simp only [Bool.false_eq_true, if_false]
    rw [if_pos (show 5 ≤ C.length by omega), cat_s _ (by simp) (all1 (lt K 4 hk)) k (by omega), Option.bind_some, cat_i _ (by simp) (all1 (lt C 5 hc)) k (by omega), Option.bind_some,
      cat_s _ (by simp) (all1 (ld K 5 hk)) k (by omega), Option.bind_some, cat_i _ (by simp) (all1 (ld C 5 hc)) k (by omega), Option.bind_some, e4]
    simp
  · obtain ⟨_, hvl, _⟩ := h4 rfl
    simp only [if_true]
    rw [if_pos (show 4 ≤ V.length by omega), cat_s _ (by simp) (all1 (lt K 4 hk)) k (by omega), Option.bind_some, cat_s _ (by simp) (all1 (lt V 4 hv)) k (by omega), Option.bind_some,
      cat_s _ (by simp) (all1 (ld K 4 hk)) k (by omega), Option.bind_some, cat_s _ (by simp) (all1 (ld V 4 hv)) k (by omega), Option.bind_some, e4]
    simp
def joinK (lf : Bool) (K : List ByteArray) (x : ByteArray) (L : List ByteArray) : List ByteArray := if lf = true then K ++ L else K ++ ([x] ++ L)
def joinV (lf1 : Bool) (K V : List ByteArray) (C : List Int) (x : ByteArray) (lf2 : Bool) (L U : List ByteArray) (D : List Int) : Bool × List ByteArray × List ByteArray × List Int × Int :=
  if (standsB lf1 K V C = true ∧ standsB lf2 L U D = true ∧ lf1 = lf2) ∧ standsB lf1 (joinK lf1 K x L) (V ++ U) (C ++ D) = true then (lf1, joinK lf1 K x L, V ++ U, C ++ D, 0) else (false, [], [], [], 1)
theorem join_f (lf1 : Bool) (K V : List ByteArray) (C : List Int) (x : ByteArray) (lf2 : Bool) (L U : List ByteArray) (D : List Int) (hk : K.length ≤ 40) (hv : V.length ≤ 40) (hc : C.length ≤ 40) (hk2 : L.length ≤ 40) (hv2 : U.length ≤ 40) (hc2 : D.length ≤ 40) (k : Nat) (h : 100 ≤ k) :
    node_Join.f k lf1 K V C x lf2 L U D = some (joinV lf1 K V C x lf2 L U D) := by
  unfold node_Join.f joinV
  rw [node_stands_f lf1 K V C (by omega) (by omega) k (by omega), Option.bind_some, node_stands_f lf2 L U D (by omega) (by omega) k (by omega), Option.bind_some]
  cases hs1 : standsB lf1 K V C
  · simp
  rw [if_pos rfl]
  cases hs2 : standsB lf2 L U D
  · simp
  rw [if_pos rfl]
  by_cases e : lf1 = lf2
  case neg => rw [if_neg e, if_neg (fun hh => e hh.1.2.2)]
  subst e
  rw [if_pos rfl, cat_s _ (by simp) (all2_ (by omega) (by omega)) k (by omega), Option.bind_some, cat_s _ (by simp) (all2_ (by omega) (by omega)) k (by omega), Option.bind_some, cat_i _ (by simp) (all2_ (by omega) (by omega)) k (by omega), Option.bind_some]
  have f2 : ∀ {α : Type} (a b : List α), [a, b].flatten = a ++ b := fun a b => by simp
  have f3 : ∀ {α : Type} (a b c : List α), [a, b, c].flatten = a ++ (b ++ c) := fun a b c => by simp
  rw [f2, f2, f2]
  have lv : (V ++ U).length ≤ 1000 := by rw [List.length_append]; omega
  have lc : (C ++ D).length ≤ 1000 := by rw [List.length_append]; omega
  unfold joinK
  cases lf1
  · simp only [Bool.false_eq_true, if_false]
    rw [cat_s _ (by simp) (all3 (by omega) (by simp) (by omega)) k (by omega), Option.bind_some, f3, node_stands_f false _ _ _ lv lc k (by omega), Option.bind_some]
    cases standsB false (K ++ ([x] ++ L)) (V ++ U) (C ++ D)
    · rw [if_neg (by simp), if_neg (fun hh => Bool.noConfusion hh.2)]
    · rw [if_pos rfl, if_pos (by simp)]
  · simp only [if_true]
    rw [node_stands_f true _ _ _ lv lc k (by omega), Option.bind_some]
    cases standsB true (K ++ L) (V ++ U) (C ++ D)
    · rw [if_neg (by simp), if_neg (fun hh => Bool.noConfusion hh.2)]
    · rw [if_pos rfl, if_pos (by simp)]
/-! parts of what stands -/
theorem key_take (K : List ByteArray) (m i : Nat) (h : i < m) : key (K.take m) i = key K i := by simp [key, List.getD_eq_getElem?_getD, h]
theorem key_drop (K : List ByteArray) (m i : Nat) : key (K.drop m) i = key K (m + i) := by simp [key, List.getD_eq_getElem?_getD, List.getElem?_drop]
theorem ok_take {K : List ByteArray} (h : ∀ i, i < K.length → okAt K i = true) (m : Nat) : ∀ i, i < (K.take m).length → okAt (K.take m) i = true := by
  intro i hi
  rw [List.length_take] at hi
  have := h i (by omega)
  unfold okAt at this ⊢
  rw [key_take K m i (by omega), key_take K m (i - 1) (by omega)]
  exact this
theorem ok_drop {K : List ByteArray} (h : ∀ i, i < K.length → okAt K i = true) (m : Nat) : ∀ i, i < (K.drop m).length → okAt (K.drop m) i = true := by
  intro i hi
  rw [List.length_drop] at hi
  have := h (m + i) (by omega)
  unfold okAt at this ⊢
  rw [key_drop K m i, key_drop K m (i - 1)]
  by_cases h0 : i = 0
  · subst h0
    simp only [Bool.and_eq_true, decide_eq_true_eq, Nat.add_zero] at this ⊢
    exact ⟨this.1, this.2.1, by simp⟩
  · rw [show m + i - 1 = m + (i - 1) by omega] at this
    simp only [Bool.and_eq_true, decide_eq_true_eq, Bool.or_eq_true] at this ⊢
    refine ⟨this.1, this.2.1, ?_⟩
    rcases this.2.2 with h1 | h1
    · omega
    · exact .inr h1
theorem stands_mk {lf : Bool} {K V : List ByteArray} {C : List Int} (h1 : K.length ≤ 9) (h2 : ∀ i, i < K.length → okAt K i = true) (h3 : tailB lf K V C = true) : standsB lf K V C = true := by
  unfold standsB keysB
  rw [h3, decide_eq_true h1]
  simp only [Bool.true_and, Bool.and_true, List.all_eq_true]
  intro i hi
  exact h2 i (by rw [List.mem_range'_1] at hi; omega)
theorem tail_leaf {K V : List ByteArray} (h1 : V.length = K.length) (h2 : ∀ v ∈ V, v.size ≤ 200) : tailB true K V [] = true := by
  unfold tailB
  simp only [if_true, h1, List.length_nil, decide_true, Bool.true_and, List.all_eq_true, decide_eq_true_eq]
  exact h2
theorem tail_inner {K : List ByteArray} {C : List Int} (h1 : 1 ≤ K.length) (h2 : C.length = K.length + 1) (h3 : ∀ b ∈ C, 10 ≤ b ∧ b ≤ 2047) : tailB false K [] C = true := by
  unfold tailB
  simp only [Bool.false_eq_true, if_false, h1, h2, List.length_nil, decide_true, Bool.true_and, List.all_eq_true, decide_eq_true_eq]
  exact h3
theorem right_mk {lf root : Bool} {K V : List ByteArray} {C : List Int} (h : standsB lf K V C = true) (h1 : K.length ≤ 8) (h2 : 4 ≤ K.length) : rightB lf K V C root = true := by
  unfold rightB
  rw [h, decide_eq_true h1, decide_eq_true h2]
  cases root <;> rfl
theorem less_iff (a b : List UInt8) : Op.bytesLess a b = decide (a < b) := by
  rw [Proofs.bytesLess_eq]
theorem less_of {a b : List UInt8} (h : Op.bytesLess a b = true) : a < b := by rw [less_iff] at h; exact of_decide_eq_true h
theorem asc {K : List ByteArray} (h : ∀ i, i < K.length → okAt K i = true) : ∀ j i, i < j → j < K.length → (key K i).toList < (key K j).toList := by
  intro j
  induction j with
  | zero => intro i hi; omega
  | succ j ih =>
    intro i hi hj
    have ho := h (j + 1) hj
    unfold okAt at ho
    simp only [Bool.and_eq_true, decide_eq_true_eq, Bool.or_eq_true, Nat.add_sub_cancel] at ho
    have h1 : (key K j).toList < (key K (j + 1)).toList := by
      rcases ho.2.2 with h0 | h0
      · omega
      · exact less_of h0
    rcases Nat.lt_or_eq_of_le (Nat.le_of_lt_succ hi) with h2 | h2
    · exact List.lt_trans (ih i h2 (by omega)) h1
    · subst h2; exact h1
theorem low_part {K : List ByteArray} (h : ∀ i, i < K.length → okAt K i = true) (m : Nat) (hm : m < K.length) : ∀ x ∈ K.take m, Op.bytesLess x.toList (key K m).toList = true := by
  intro x hx
  obtain ⟨i, hi, rfl⟩ := List.mem_iff_getElem.1 hx
  rw [List.length_take] at hi
  rw [← key_eq (K := K.take m) (i := i) (by rw [List.length_take]; omega), key_take K m i (by omega), less_iff]
  exact decide_eq_true (asc h m i (by omega) hm)
theorem high_part {K : List ByteArray} (h : ∀ i, i < K.length → okAt K i = true) (m n : Nat) (hm : m < K.length) (hn : m ≤ n) : ∀ x ∈ K.drop n, Op.bytesLess x.toList (key K m).toList = false := by
  intro x hx
  obtain ⟨i, hi, rfl⟩ := List.mem_iff_getElem.1 hx
  rw [List.length_drop] at hi
  rw [← key_eq (K := K.drop n) (i := i) (by rw [List.length_drop]; omega), key_drop K n i, less_iff]
  refine decide_eq_false (fun hc => ?_)
  rcases Nat.lt_or_eq_of_le (show m ≤ n + i by omega) with h1 | h1
  · exact absurd (List.lt_trans hc (asc h (n + i) m h1 (by omega))) (List.lt_irrefl _)
  · rw [← h1] at hc; exact absurd hc (List.lt_irrefl _)
end Go.Proofs.Ytmnkabdaapiikaa.Pure
