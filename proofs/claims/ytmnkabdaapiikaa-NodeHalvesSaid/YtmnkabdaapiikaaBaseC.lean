/- Which nodes may stand, and their bytes: the plain value of what the code and the reference compute. -/
import Derived.Test.YtmnkabdaapiikaaXPut
import Derived.Test.YtmnkabdaapiikaaXRt
import Derived.Test.YtmnkabdaapiikaaCx3
import Derived.Test.YtmnkabdaapiikaaCx2
namespace Go.Proofs.Ytmnkabdaapiikaa.Pure
open Go.RowKit Go.Proofs.Ytmnkabdaapiikaa.C Go.Proofs.YtmnkabdaapiikaaW.PrintWords Go.Proofs.YtmnkabdaapiikaaW.PrintLast

set_option linter.unusedVariables false

def key (K : List ByteArray) (i : Nat) : ByteArray := K.getD i ByteArray.empty
def okAt (K : List ByteArray) (i : Nat) : Bool := decide (1 ≤ (key K i).size) && (decide ((key K i).size ≤ 32) && (decide (i = 0) || Op.bytesLess (key K (i - 1)).toList (key K i).toList))
def keysB (K : List ByteArray) : Bool := (List.range' 0 K.length).all (okAt K)
def tailB (leaf : Bool) (K V : List ByteArray) (C : List Int) : Bool :=
  if leaf = true then decide (C.length = 0) && (decide (V.length = K.length) && V.all (fun v => decide (v.size ≤ 200)))
  else decide (V.length = 0) && (decide (1 ≤ K.length) && (decide (C.length = K.length + 1) && C.all (fun b => decide (10 ≤ b ∧ b ≤ 2047))))
def standsB (leaf : Bool) (K V : List ByteArray) (C : List Int) : Bool := decide (K.length ≤ 9) && (keysB K && tailB leaf K V C)
def rightB (leaf : Bool) (K V : List ByteArray) (C : List Int) (root : Bool) : Bool := standsB leaf K V C && (decide (K.length ≤ 8) && (root || decide (4 ≤ K.length)))

theorem w64_in (n : Int) (h : -9223372036854775808 ≤ n ∧ n ≤ 9223372036854775807) : wrap64 n = n := by unfold wrap64; omega
theorem rdOf_nat (l : List ByteArray) (i : Nat) : rdOf ByteArray.empty l (i : Int) = key l i := by simp [rdOf, key]
theorem ok_step (K : List ByteArray) (i : Nat) {α : Type} (x y z : Option α) (hi : i < K.length) (hl : K.length ≤ 1000) (w : i = 0 ∨ x = y) :
    (if ((key K i).size : Int) < 1 then z else (if ((key K i).size : Int) > 32 then z else (if (i : Int) > 0 then (if 0 ≤ (wrap64 ((i : Int) - 1)) then (if (wrap64 ((i : Int) - 1)) < (K.length : Int) then (if ((Op.bytesLess ((rdOf ByteArray.empty K (wrap64 ((i : Int) - 1))).toList) ((key K i).toList)) = true) then x else z) else (none)) else (none)) else y))) = if okAt K i = true then y else z := by
  unfold okAt
  by_cases h1 : 1 ≤ (key K i).size
  case neg => rw [if_pos (by omega)]; simp [h1]
  rw [if_neg (by omega)]
  by_cases h2 : (key K i).size ≤ 32
  case neg => rw [if_pos (by omega)]; simp [h2]
  rw [if_neg (by omega)]
  by_cases h3 : i = 0
  · subst h3; simp [h1, h2]
  · have e : wrap64 ((i : Int) - 1) = ((i - 1 : Nat) : Int) := by rw [w64_in _ (by omega)]; omega
    rw [if_pos (by omega), e, if_pos (by omega), if_pos (by omega), rdOf_nat]
    rcases w with w | w
    · exact absurd w h3
    · subst w; simp [h1, h2, h3]
theorem node_l0 (leaf : Bool) (K V : List ByteArray) (C : List Int) (hl : K.length ≤ 9) (hv : V.length ≤ 1000) (hc : C.length ≤ 1000) : ∀ m i k : Nat, i + m = K.length → m + 1 ≤ k →
    P.node_stands.l0 k (K.length : Int) K (K.length : Int) i leaf K V C = some ((List.range' i m).all (okAt K) && tailB leaf K V C) := by
  intro m
  induction m with
  | zero =>
    intro i k hi hk
    obtain ⟨k, rfl⟩ : ∃ q, k = q + 1 := ⟨k - 1, by omega⟩
    rw [P.node_stands.l0, if_neg (by omega)]
    simp only [List.range'_zero, List.all_nil, Bool.true_and]
    unfold tailB slices_ContainsFunc_string_string.f slices_ContainsFunc_int_int.f
    cases leaf
    · simp only [Bool.false_eq_true, if_false]
      by_cases h1 : V.length = 0
      case neg => rw [if_neg (by omega)]; simp [h1]
      rw [if_pos (by omega)]
      by_cases h2 : 1 ≤ K.length
      case neg => rw [if_neg (by omega)]; simp [h2]
      rw [if_pos (by omega), w64_in _ (by omega)]
      by_cases h3 : C.length = K.length + 1
      case neg => rw [if_neg (by omega)]; simp [h3]
      rw [if_pos (by omega), if_pos (by omega), Option.bind_some]
      simp only [h1, h2, h3, decide_true, Bool.true_and, Option.some.injEq]
      rw [List.not_any_eq_all_not]
      congr 1
      funext b
      unfold slices_ContainsFunc_int_int.p
      rw [Bool.eq_iff_iff]; simp; omega
    · simp only [if_true]
      by_cases h1 : C.length = 0
      case neg => rw [if_neg (by omega)]; simp [h1]
      rw [if_pos (by omega)]
      by_cases h2 : V.length = K.length
      case neg => rw [if_neg (by omega)]; simp [h2]
      rw [if_pos (by omega), if_pos (by omega), Option.bind_some]
      simp only [h1, h2, decide_true, Bool.true_and, Option.some.injEq]
      rw [List.not_any_eq_all_not]
      congr 1
      funext b
      unfold slices_ContainsFunc_string_string.p
      rw [Bool.eq_iff_iff]; simp
  | succ m ih =>
    intro i k hi hk
    obtain ⟨k, rfl⟩ : ∃ q, k = q + 1 := ⟨k - 1, by omega⟩
    rw [P.node_stands.l0, if_pos (by omega), if_pos (by omega), if_pos (by omega), rdOf_nat, ok_step K i _ _ _ (by omega) (by omega) (.inr rfl),
      show wrap64 ((i : Int) + 1) = ((i + 1 : Nat) : Int) by rw [w64_in _ (by omega)]; omega, ih (i + 1) k (by omega) (by omega)]
    rw [List.range'_succ, List.all_cons]
    cases okAt K i <;> simp
theorem node_stands_p (leaf : Bool) (K V : List ByteArray) (C : List Int) (hv : V.length ≤ 1000) (hc : C.length ≤ 1000) (k : Nat) (hk : 12 ≤ k) :
    P.node_stands.f k leaf K V C = some (standsB leaf K V C) := by
  unfold P.node_stands.f standsB keysB
  by_cases hl : K.length ≤ 9
  · rw [if_neg (by omega), show (0 : Int) = ((0 : Nat) : Int) from rfl, node_l0 leaf K V C hl hv hc K.length 0 k (by omega) (by omega)]
    simp [hl]
  · rw [if_pos (by omega)]
    simp [hl]
theorem node_stands_f (leaf : Bool) (K V : List ByteArray) (C : List Int) (hv : V.length ≤ 1000) (hc : C.length ≤ 1000) (k : Nat) (hk : 12 ≤ k) :
    node_stands.f k leaf K V C = some (standsB leaf K V C) := node_stands_p leaf K V C hv hc k hk
theorem node_right_p (leaf : Bool) (K V : List ByteArray) (C : List Int) (root : Bool) (hv : V.length ≤ 1000) (hc : C.length ≤ 1000) (k : Nat) (hk : 12 ≤ k) :
    P.node_Right.f k leaf K V C root = some (rightB leaf K V C root) := by
  unfold P.node_Right.f rightB
  rw [node_stands_p leaf K V C hv hc k hk, Option.bind_some]
  cases standsB leaf K V C
  · simp
  · by_cases h : K.length ≤ 8
    · rw [if_pos rfl, if_pos (by omega)]
      cases root
      · rw [if_neg (by simp)]; simp only [h, decide_true, Bool.true_and, Bool.false_or, Option.some.injEq]; rw [Bool.eq_iff_iff]; simp; omega
      · simp [h]
    · rw [if_pos rfl, if_neg (by omega)]
      simp [h]
theorem node_right_f (leaf : Bool) (K V : List ByteArray) (C : List Int) (root : Bool) (hv : V.length ≤ 1000) (hc : C.length ≤ 1000) (k : Nat) (hk : 12 ≤ k) :
    node_Right.f k leaf K V C root = some (rightB leaf K V C root) := node_right_p leaf K V C root hv hc k hk
theorem ref_l2 (leaf : Bool) (K V : List ByteArray) (C : List Int) (hl : K.length ≤ 9) (hc : C.length ≤ 1000) : ∀ m i k : Nat, i + m = C.length → m + 1 ≤ k →
    peneloperef07_Stands.l2 k C (C.length : Int) i leaf K V C = some ((C.drop i).all (fun b => decide (10 ≤ b ∧ b ≤ 2047)) && (if leaf = true then decide (V.length = K.length) && decide (C.length = 0) else decide (V.length = 0) && (decide (1 ≤ K.length) && decide (C.length = K.length + 1)))) := by
  intro m
  induction m with
  | zero =>
    intro i k hi hk
    obtain ⟨k, rfl⟩ : ∃ q, k = q + 1 := ⟨k - 1, by omega⟩
    rw [peneloperef07_Stands.l2, if_neg (by omega), List.drop_eq_nil_of_le (by omega), List.all_nil, Bool.true_and]
    cases leaf
    · simp only [Bool.false_eq_true, if_false]
      by_cases h1 : V.length = 0
      case neg => rw [if_neg (by omega)]; simp [h1]
      rw [if_pos (by omega)]
      by_cases h2 : 1 ≤ K.length
      case neg => rw [if_neg (by omega)]; simp [h2]
      rw [if_pos (by omega), w64_in _ (by omega)]
      simp only [h1, h2, decide_true, Bool.true_and, Option.some.injEq]
      rw [Bool.eq_iff_iff]; simp; omega
    · simp only [if_true]
      by_cases h2 : V.length = K.length
      case neg => rw [if_neg (by omega)]; simp [h2]
      rw [if_pos (by omega)]
      simp only [h2, decide_true, Bool.true_and, Option.some.injEq]
      rw [Bool.eq_iff_iff]; simp
  | succ m ih =>
    intro i k hi hk
    obtain ⟨k, rfl⟩ : ∃ q, k = q + 1 := ⟨k - 1, by omega⟩
    have hr : rd C (i : Int) = C[i]'(by omega) := by simp [rd, List.getD_eq_getElem?_getD, List.getElem?_eq_getElem (show i < C.length by omega)]
    rw [peneloperef07_Stands.l2, if_pos (by omega), if_pos (by omega), if_pos (by omega), hr,
      show wrap64 ((i : Int) + 1) = ((i + 1 : Nat) : Int) by rw [w64_in _ (by omega)]; omega, ih (i + 1) k (by omega) (by omega), List.drop_eq_getElem_cons (show i < C.length by omega), List.all_cons]
    generalize C[i]'(by omega) = b
    by_cases h1 : b < 10
    · rw [if_pos h1, decide_eq_false (show ¬ (10 ≤ b ∧ b ≤ 2047) by omega)]; rfl
    rw [if_neg h1]
    by_cases h2 : b > 2047
    · rw [if_pos h2, decide_eq_false (show ¬ (10 ≤ b ∧ b ≤ 2047) by omega)]; rfl
    rw [if_neg h2, decide_eq_true (show (10 ≤ b ∧ b ≤ 2047) by omega)]; rfl
theorem ref_l1 (leaf : Bool) (K V : List ByteArray) (C : List Int) (hl : K.length ≤ 9) (hv : V.length ≤ 1000) (hc : C.length ≤ 1000) : ∀ m i k : Nat, i + m = V.length → m + C.length + 2 ≤ k →
    peneloperef07_Stands.l1 k V (V.length : Int) i leaf K V C = some ((V.drop i).all (fun v => decide (v.size ≤ 200)) && (C.all (fun b => decide (10 ≤ b ∧ b ≤ 2047)) && (if leaf = true then decide (V.length = K.length) && decide (C.length = 0) else decide (V.length = 0) && (decide (1 ≤ K.length) && decide (C.length = K.length + 1))))) := by
  intro m
  induction m with
  | zero =>
    intro i k hi hk
    obtain ⟨k, rfl⟩ : ∃ q, k = q + 1 := ⟨k - 1, by omega⟩
    rw [peneloperef07_Stands.l1, if_neg (by omega), show (0 : Int) = ((0 : Nat) : Int) from rfl, ref_l2 leaf K V C hl hc C.length 0 k (by omega) (by omega)]
    rw [show V.drop i = [] from List.drop_eq_nil_of_le (by omega)]
    simp
  | succ m ih =>
    intro i k hi hk
    obtain ⟨k, rfl⟩ : ∃ q, k = q + 1 := ⟨k - 1, by omega⟩
    rw [peneloperef07_Stands.l1, if_pos (by omega), if_pos (by omega), if_pos (by omega), rdOf_nat,
      show wrap64 ((i : Int) + 1) = ((i + 1 : Nat) : Int) by rw [w64_in _ (by omega)]; omega, ih (i + 1) k (by omega) (by omega), List.drop_eq_getElem_cons (show i < V.length by omega), List.all_cons]
    have hr : key V i = V[i]'(by omega) := by simp [key, List.getD_eq_getElem?_getD, List.getElem?_eq_getElem (show i < V.length by omega)]
    rw [hr]
    by_cases h1 : (V[i]'(by omega)).size ≤ 200
    · rw [if_neg (by omega), decide_eq_true h1]; rfl
    · rw [if_pos (by omega), decide_eq_false h1]; rfl
theorem ref_l0 (leaf : Bool) (K V : List ByteArray) (C : List Int) (hl : K.length ≤ 9) (hv : V.length ≤ 1000) (hc : C.length ≤ 1000) : ∀ m i k : Nat, i + m = K.length → m + V.length + C.length + 3 ≤ k →
    peneloperef07_Stands.l0 k K (K.length : Int) i leaf K V C = some ((List.range' i m).all (okAt K) && (V.all (fun v => decide (v.size ≤ 200)) && (C.all (fun b => decide (10 ≤ b ∧ b ≤ 2047)) && (if leaf = true then decide (V.length = K.length) && decide (C.length = 0) else decide (V.length = 0) && (decide (1 ≤ K.length) && decide (C.length = K.length + 1)))))) := by
  intro m
  induction m with
  | zero =>
    intro i k hi hk
    obtain ⟨k, rfl⟩ : ∃ q, k = q + 1 := ⟨k - 1, by omega⟩
    rw [peneloperef07_Stands.l0, if_neg (by omega), show (0 : Int) = ((0 : Nat) : Int) from rfl, ref_l1 leaf K V C hl hv hc V.length 0 k (by omega) (by omega)]
    simp
  | succ m ih =>
    intro i k hi hk
    obtain ⟨k, rfl⟩ : ∃ q, k = q + 1 := ⟨k - 1, by omega⟩
    rw [peneloperef07_Stands.l0, if_pos (by omega), if_pos (by omega), if_pos (by omega), rdOf_nat, ok_step K i _ _ _ (by omega) (by omega) (.inr rfl),
      show wrap64 ((i : Int) + 1) = ((i + 1 : Nat) : Int) by rw [w64_in _ (by omega)]; omega, ih (i + 1) k (by omega) (by omega)]
    rw [List.range'_succ, List.all_cons]
    cases okAt K i <;> simp
theorem ref_stands_f (leaf : Bool) (K V : List ByteArray) (C : List Int) (hv : V.length ≤ 1000) (hc : C.length ≤ 1000) (k : Nat) (hk : 3000 ≤ k) :
    peneloperef07_Stands.f k leaf K V C = some (standsB leaf K V C) := by
  unfold peneloperef07_Stands.f standsB keysB
  by_cases hl : K.length ≤ 9
  · rw [if_neg (by omega), show (0 : Int) = ((0 : Nat) : Int) from rfl, ref_l0 leaf K V C hl (by omega) (by omega) K.length 0 k (by omega) (by omega)]
    rw [decide_eq_true hl, Bool.true_and]
    congr 2
    unfold tailB
    cases leaf
    · simp only [Bool.false_eq_true, if_false]
      by_cases h1 : V.length = 0
      · obtain rfl := List.eq_nil_of_length_eq_zero h1
        simp only [List.all_nil, Bool.true_and, List.length_nil, decide_true]
        generalize C.all (fun b => decide (10 ≤ b ∧ b ≤ 2047)) = x
        generalize decide (1 ≤ K.length) = y
        generalize decide (C.length = K.length + 1) = z
        cases x <;> cases y <;> cases z <;> rfl
      · simp [h1]
    · simp only [if_true]
      by_cases h1 : C.length = 0
      · obtain rfl := List.eq_nil_of_length_eq_zero h1
        simp [Bool.and_comm]
      · simp [h1]
  · rw [if_pos (by omega)]
    simp [hl]
theorem put1 (k : Nat) (hk : 4 ≤ k) {n : Int} (h0 : 0 ≤ n) (h1 : n < 256) : P.code_Put.f k n 1 = some (strOfNums [n % 256], 0) := by
  obtain ⟨k, rfl⟩ : ∃ m, k = m + 4 := ⟨k - 4, by omega⟩
  have e : n / 256 = 0 := by omega
  unfold P.code_Put.f
  rw [if_neg (by omega), if_neg (by omega), if_neg (by omega)]
  simp [P.code_Put.j0, P.code_Put.l0, wrap64, shr, e, IntKind.bits]
theorem put2 (k : Nat) (hk : 5 ≤ k) {n : Int} (h0 : 0 ≤ n) (h1 : n < 65536) : P.code_Put.f k n 2 = some (strOfNums [n / 256 % 256, n % 256], 0) := by
  obtain ⟨k, rfl⟩ : ∃ m, k = m + 5 := ⟨k - 5, by omega⟩
  have e : n / 65536 = 0 := by omega
  unfold P.code_Put.f
  rw [if_neg (by omega), if_neg (by omega), if_neg (by omega)]
  simp [P.code_Put.j0, P.code_Put.l0, wrap64, shr, e, IntKind.bits, List.replicate]
/-- A byte of a number. -/
def ub (n : Int) : UInt8 := UInt8.ofNat n.toNat
theorem strOf_list (l : List Int) : (strOfNums l).data.toList = l.map ub := rfl
def mkB (l : List UInt8) : ByteArray := ⟨l.toArray⟩
theorem mkB_list (l : List UInt8) : (mkB l).data.toList = l := by simp [mkB]
theorem mkB_of (b : ByteArray) : mkB b.data.toList = b := by cases b; simp [mkB]
theorem mkB_size (l : List UInt8) : (mkB l).size = l.length := by rw [Go.Lib.size_eq, mkB_list]
theorem mkB_app (a b : List UInt8) : mkB a ++ mkB b = mkB (a ++ b) := by
  rw [← mkB_of (mkB a ++ mkB b)]
  congr 1
/-- A number in two bytes, and a text and its length ahead of it. -/
def two (n : Int) : List UInt8 := [ub (n / 256 % 256), ub (n % 256)]
def txt (s : ByteArray) : List UInt8 := two (s.size : Int) ++ s.data.toList
theorem txt_len (s : ByteArray) : (txt s).length = s.size + 2 := by
  unfold txt two
  rw [List.length_append, ← Go.Lib.size_eq]; simp only [List.length_cons, List.length_nil]; omega
theorem all2 (a b : List UInt8) (h : a.length + b.length ≤ 100000) : code_All.f [mkB a, mkB b] = some (mkB (a ++ b)) := by
  have e : catL [mkB a, mkB b] = a ++ b := by simp [catL, mkB]
  unfold code_All.f
  rw [e, if_pos ⟨by rw [List.length_append]; omega, by simp⟩]
  rfl
theorem strTwo (n : Int) : strOfNums [n / 256 % 256, n % 256] = mkB (two n) := rfl
theorem text_p (k : Nat) (hk : 5 ≤ k) (s : ByteArray) (h : s.size ≤ 65535) : P.code_Text.f k s = some (mkB (txt s), 0) := by
  unfold P.code_Text.f
  rw [if_neg (by omega), put2 k hk (by omega) (by omega)]
  simp only [Option.bind_some]
  have e := all2 (two (s.size : Int)) s.data.toList (by rw [← Go.Lib.size_eq]; simp [two]; omega)
  rw [mkB_of] at e
  rw [strTwo, e]
  rfl
theorem textF_p (k : Nat) (hk : 5 ≤ k) (o : List UInt8) (s : ByteArray) (h : s.size ≤ 65535) (ho : o.length ≤ 10000) : textF k (mkB o) s = some (mkB (o ++ txt s)) := by
  unfold textF
  rw [text_p k hk s h, Option.bind_some]
  exact all2 _ _ (by rw [txt_len]; omega)
def leafB : List ByteArray → List ByteArray → List UInt8
  | x :: xs, v :: vs => txt x ++ (txt v ++ leafB xs vs)
  | _, _ => []
def kidB : List Int → List ByteArray → List UInt8
  | [], _ => []
  | b :: bs, [] => two b ++ kidB bs []
  | b :: bs, x :: xs => two b ++ (txt x ++ kidB bs xs)
def putB (leaf : Bool) (K V : List ByteArray) (C : List Int) : List UInt8 := ub ((K.length : Int) % 256) :: (if leaf = true then leafB K V else kidB C K)
theorem leaf_p (k : Nat) (hk : 5 ≤ k) : ∀ (K V : List ByteArray) (o : List UInt8), V.length = K.length → (∀ x ∈ K, x.size ≤ 200) → (∀ x ∈ V, x.size ≤ 200) → o.length + 500 * K.length ≤ 9000 → putLeaf k K V (mkB o) = some (mkB (o ++ leafB K V))
  | [], V, o, _, _, _, _ => by cases V <;> simp [putLeaf, leafB]
  | x :: xs, [], o, h, _, _, _ => by simp at h
  | x :: xs, v :: vs, o, h, hK, hV, ho => by
    have h1 := hK x (by simp)
    have h2 := hV v (by simp)
    simp only [List.length_cons] at h ho
    rw [putLeaf, textF_p k hk o x (by omega) (by omega), Option.bind_some, textF_p k hk _ v (by omega) (by rw [List.length_append, txt_len]; omega), Option.bind_some,
      leaf_p k hk xs vs _ (by omega) (fun y hy => hK y (by simp [hy])) (fun y hy => hV y (by simp [hy])) (by rw [List.length_append, List.length_append, txt_len, txt_len]; omega), leafB]
    simp [List.append_assoc]
theorem kid_p (k : Nat) (hk : 5 ≤ k) : ∀ (C : List Int) (K : List ByteArray) (o : List UInt8), (∀ x ∈ C, 0 ≤ x ∧ x < 65536) → (∀ x ∈ K, x.size ≤ 200) → o.length + 300 * C.length ≤ 9000 → putKid k C K (mkB o) = some (mkB (o ++ kidB C K))
  | [], K, o, _, _, _ => by cases K <;> simp [putKid, kidB]
  | b :: bs, [], o, hC, hK, ho => by
    have h1 := hC b (by simp)
    simp only [List.length_cons] at ho
    rw [putKid, put2 k hk h1.1 h1.2, Option.bind_some, strTwo, all2 _ _ (by simp [two]; omega), Option.bind_some,
      kid_p k hk bs [] _ (fun y hy => hC y (by simp [hy])) hK (by rw [List.length_append]; simp [two]; omega), kidB]
    simp [List.append_assoc]
  | b :: bs, x :: xs, o, hC, hK, ho => by
    have h1 := hC b (by simp)
    have h2 := hK x (by simp)
    simp only [List.length_cons] at ho
    rw [putKid, put2 k hk h1.1 h1.2, Option.bind_some, strTwo, all2 _ _ (by simp [two]; omega), Option.bind_some, textF_p k hk _ x (by omega) (by rw [List.length_append]; simp [two]; omega), Option.bind_some,
      kid_p k hk bs xs _ (fun y hy => hC y (by simp [hy])) (fun y hy => hK y (by simp [hy])) (by rw [List.length_append, List.length_append, txt_len]; simp [two]; omega), kidB]
    simp [List.append_assoc]
/-- What a node that may stand is. -/
theorem stands_of {leaf : Bool} {K V : List ByteArray} {C : List Int} (h : standsB leaf K V C = true) :
    K.length ≤ 9 ∧ (∀ i, i < K.length → okAt K i = true) ∧ (∀ x ∈ K, 1 ≤ x.size ∧ x.size ≤ 32) ∧ (leaf = true → C = [] ∧ V.length = K.length ∧ ∀ v ∈ V, v.size ≤ 200) ∧ (leaf = false → V = [] ∧ 1 ≤ K.length ∧ C.length = K.length + 1 ∧ ∀ b ∈ C, 10 ≤ b ∧ b ≤ 2047) := by
  unfold standsB keysB tailB at h
  simp only [Bool.and_eq_true, decide_eq_true_eq, List.all_eq_true] at h
  obtain ⟨h1, h2, h3⟩ := h
  have h2' : ∀ i, i < K.length → okAt K i = true := fun i hi => h2 i (by rw [List.mem_range'_1]; omega)
  refine ⟨h1, h2', fun x hx => ?_, fun hl => ?_, fun hl => ?_⟩
  · obtain ⟨i, hi, rfl⟩ := List.mem_iff_getElem.1 hx
    have := h2' i hi
    unfold okAt at this
    have e : key K i = K[i] := by simp [key, List.getD_eq_getElem?_getD, List.getElem?_eq_getElem hi]
    rw [e] at this
    simp only [Bool.and_eq_true, decide_eq_true_eq] at this
    exact ⟨this.1, this.2.1⟩
  · subst hl
    simp only [if_true, Bool.and_eq_true, decide_eq_true_eq, List.all_eq_true] at h3
    exact ⟨List.eq_nil_of_length_eq_zero h3.1, h3.2.1, h3.2.2⟩
  · subst hl
    simp only [Bool.false_eq_true, if_false, Bool.and_eq_true, decide_eq_true_eq, List.all_eq_true] at h3
    exact ⟨List.eq_nil_of_length_eq_zero h3.1, h3.2.1, h3.2.2.1, h3.2.2.2⟩
theorem put_f (leaf : Bool) (K V : List ByteArray) (C : List Int) (hv : V.length ≤ 1000) (hc : C.length ≤ 1000) (k : Nat) (hk : 12 ≤ k) :
    node_Put.f k leaf K V C = some (if rightB leaf K V C true = true then (mkB (putB leaf K V C), 0) else (⟨#[]⟩, 1)) := by
  unfold node_Put.f
  rw [node_right_p leaf K V C true hv hc k hk, Option.bind_some]
  cases hr : rightB leaf K V C true
  · rfl
  · rw [if_neg (by simp), if_pos rfl]
    have hs : standsB leaf K V C = true := by
      unfold rightB at hr
      simp only [Bool.and_eq_true] at hr
      exact hr.1
    obtain ⟨h1, _, h3, h4, h5⟩ := stands_of hs
    rw [put1 k (by omega) (by omega) (by omega), Option.bind_some]
    cases leaf
    · obtain ⟨rfl, g2, g3, g4⟩ := h5 rfl
      simp only [Bool.false_eq_true, if_false]
      rw [if_pos (by omega)]
      rw [show strOfNums [(K.length : Int) % 256] = mkB [ub ((K.length : Int) % 256)] from rfl, kid_p k (by omega) C K _ (fun x hx => by have := g4 x hx; omega) (fun x hx => by have := h3 x hx; omega) (by simp; omega)]
      simp [putB]
    · obtain ⟨rfl, g2, g3⟩ := h4 rfl
      simp only [if_true]
      rw [if_pos (by omega)]
      rw [show strOfNums [(K.length : Int) % 256] = mkB [ub ((K.length : Int) % 256)] from rfl, leaf_p k (by omega) K V _ g2 (fun x hx => by have := h3 x hx; omega) g3 (by simp; omega)]
      simp [putB]
theorem key_eq {K : List ByteArray} {i : Nat} (h : i < K.length) : key K i = K[i] := by simp [key, List.getD_eq_getElem?_getD, List.getElem?_eq_getElem h]
theorem rd_eq {C : List Int} {i : Nat} (h : i < C.length) : rd C (i : Int) = C[i] := by simp [rd, List.getD_eq_getElem?_getD, List.getElem?_eq_getElem h]
theorem alive_f (k : Nat) (hk : 12 ≤ k) : penelopelaw07_alive.f k = some true := by
  unfold penelopelaw07_alive.f
  have e : rightB true [] [] [] true = true := by simp [rightB, standsB, keysB, tailB]
  rw [put_f true [] [] [] (by simp) (by simp) k hk, Option.bind_some, e, if_pos rfl]
  simp only [if_true, Go.Lib.toList_data, mkB_list]
  rfl
end Go.Proofs.Ytmnkabdaapiikaa.Pure
