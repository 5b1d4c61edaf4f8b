/- The pure statement of NodeCuts: the parts of any node that has too many keys, and what two nodes are side by side, is as the document says, or refused. -/
import Derived.Test.YtmnkabdaapiikaaXPut
import Derived.Test.YtmnkabdaapiikaaXRt
import Derived.Test.YtmnkabdaapiikaaCx3
import Derived.Test.YtmnkabdaapiikaaCx2
import Derived.Test.YtmnkabdaapiikaaXCut
import Derived.Test.YtmnkabdaapiikaaXJoin
import Derived.Test.YtmnkabdaapiikaaCx6
import Derived.Test.YtmnkabdaapiikaaCx4
import Derived.Test.YtmnkabdaapiikaaCx7
import Derived.Test.YtmnkabdaapiikaaSayNodeCuts
/- Which nodes may stand, and their bytes: the plain value of what the code and the reference compute. -/
namespace Go.Proofs.Ytmnkabdaapiikaa.Pure
open Go.RowKit Go.Proofs.Ytmnkabdaapiikaa.C Go.Proofs.YtmnkabdaapiikaaW.PrintWords Go.Proofs.YtmnkabdaapiikaaW.PrintLast

set_option linter.unusedVariables false

def key (K : List ByteArray) (i : Nat) : ByteArray := K.getD i ByteArray.empty
def okAt (K : List ByteArray) (i : Nat) : Bool := decide (1 ≤ (key K i).size) && (decide ((key K i).size ≤ 32) && (decide (i = 0) || Op.bytesLess (key K (i - 1)).toList (key K i).toList))
def keysB (K : List ByteArray) : Bool := (List.range' 0 K.length).all (okAt K)
def tailB (leaf : Bool) (K V : List ByteArray) (C : List Int) : Bool :=
  if leaf = true then decide (C.length = 0) && (decide (V.length = K.length) && V.all (fun v => decide (v.size ≤ 200)))
  else decide (V.length = 0) && (decide (1 ≤ K.length) && (decide (C.length = K.length + 1) && C.all (fun b => decide (10 ≤ b ∧ b ≤ 2047))))
def standsB (leaf : Bool) (K V : List ByteArray) (C : List Int) : Bool := decide (K.length ≤ 9) && (keysB K && tailB leaf K V C)
def rightB (leaf : Bool) (K V : List ByteArray) (C : List Int) (root : Bool) : Bool := standsB leaf K V C && (decide (K.length ≤ 8) && (root || decide (4 ≤ K.length)))

theorem w64_in (n : Int) (h : -9223372036854775808 ≤ n ∧ n ≤ 9223372036854775807) : wrap64 n = n := by unfold wrap64; omega
theorem rdOf_nat (l : List ByteArray) (i : Nat) : rdOf ByteArray.empty l (i : Int) = key l i := by simp [rdOf, key]
theorem ok_step (K : List ByteArray) (i : Nat) {α : Type} (x y z : Option α) (hi : i < K.length) (hl : K.length ≤ 1000) (w : i = 0 ∨ x = y) :
    (if ((key K i).size : Int) < 1 then z else (if ((key K i).size : Int) > 32 then z else (if (i : Int) > 0 then (if 0 ≤ (wrap64 ((i : Int) - 1)) then (if (wrap64 ((i : Int) - 1)) < (K.length : Int) then (if ((Op.bytesLess ((rdOf ByteArray.empty K (wrap64 ((i : Int) - 1))).toList) ((key K i).toList)) = true) then x else z) else (none)) else (none)) else y))) = if okAt K i = true then y else z := by
  unfold okAt
  by_cases h1 : 1 ≤ (key K i).size
  case neg => rw [if_pos (by omega)]; simp [h1]
  rw [if_neg (by omega)]
  by_cases h2 : (key K i).size ≤ 32
  case neg => rw [if_pos (by omega)]; simp [h2]
  rw [if_neg (by omega)]
  by_cases h3 : i = 0
  · subst h3; simp [h1, h2]
  · have e : wrap64 ((i : Int) - 1) = ((i - 1 : Nat) : Int) := by rw [w64_in _ (by omega)]; omega
    rw [if_pos (by omega), e, if_pos (by omega), if_pos (by omega), rdOf_nat]
    rcases w with w | w
    · exact absurd w h3
    · subst w; simp [h1, h2, h3]
theorem node_l0 (leaf : Bool) (K V : List ByteArray) (C : List Int) (hl : K.length ≤ 9) (hv : V.length ≤ 1000) (hc : C.length ≤ 1000) : ∀ m i k : Nat, i + m = K.length → m + 1 ≤ k →
    P.node_stands.l0 k (K.length : Int) K (K.length : Int) i leaf K V C = some ((List.range' i m).all (okAt K) && tailB leaf K V C) := by
  intro m
  induction m with
  | zero =>
    intro i k hi hk
    obtain ⟨k, rfl⟩ : ∃ q, k = q + 1 := ⟨k - 1, by omega⟩
    rw [P.node_stands.l0, if_neg (by omega)]
    simp only [List.range'_zero, List.all_nil, Bool.true_and]
    unfold tailB slices_ContainsFunc_string_string.f slices_ContainsFunc_int_int.f
    cases leaf
    · simp only [Bool.false_eq_true, if_false]
      by_cases h1 : V.length = 0
      case neg => rw [if_neg (by omega)]; simp [h1]
      rw [if_pos (by omega)]
      by_cases h2 : 1 ≤ K.length
      case neg => rw [if_neg (by omega)]; simp [h2]
      rw [if_pos (by omega), w64_in _ (by omega)]
      by_cases h3 : C.length = K.length + 1
      case neg => rw [if_neg (by omega)]; simp [h3]
      rw [if_pos (by omega), if_pos (by omega), Option.bind_some]
      simp only [h1, h2, h3, decide_true, Bool.true_and, Option.some.injEq]
      rw [List.not_any_eq_all_not]
      congr 1
      funext b
      unfold slices_ContainsFunc_int_int.p
      rw [Bool.eq_iff_iff]; simp; omega
    · simp only [if_true]
      by_cases h1 : C.length = 0
      case neg => rw [if_neg (by omega)]; simp [h1]
      rw [if_pos (by omega)]
      by_cases h2 : V.length = K.length
      case neg => rw [if_neg (by omega)]; simp [h2]
      rw [if_pos (by omega), if_pos (by omega), Option.bind_some]
      simp only [h1, h2, decide_true, Bool.true_and, Option.some.injEq]
      rw [List.not_any_eq_all_not]
      congr 1
      funext b
      unfold slices_ContainsFunc_string_string.p
      rw [Bool.eq_iff_iff]; simp
  | succ m ih =>
    intro i k hi hk
    obtain ⟨k, rfl⟩ : ∃ q, k = q + 1 := ⟨k - 1, by omega⟩
    rw [P.node_stands.l0, if_pos (by omega), if_pos (by omega), if_pos (by omega), rdOf_nat, ok_step K i _ _ _ (by omega) (by omega) (.inr rfl),
      show wrap64 ((i : Int) + 1) = ((i + 1 : Nat) : Int) by rw [w64_in _ (by omega)]; omega, ih (i + 1) k (by omega) (by omega)]
    rw [List.range'_succ, List.all_cons]
    cases okAt K i <;> simp
theorem node_stands_p (leaf : Bool) (K V : List ByteArray) (C : List Int) (hv : V.length ≤ 1000) (hc : C.length ≤ 1000) (k : Nat) (hk : 12 ≤ k) :
    P.node_stands.f k leaf K V C = some (standsB leaf K V C) := by
  unfold P.node_stands.f standsB keysB
  by_cases hl : K.length ≤ 9
  · rw [if_neg (by omega), show (0 : Int) = ((0 : Nat) : Int) from rfl, node_l0 leaf K V C hl hv hc K.length 0 k (by omega) (by omega)]
    simp [hl]
  · rw [if_pos (by omega)]
    simp [hl]
theorem node_stands_f (leaf : Bool) (K V : List ByteArray) (C : List Int) (hv : V.length ≤ 1000) (hc : C.length ≤ 1000) (k : Nat) (hk : 12 ≤ k) :
    node_stands.f k leaf K V C = some (standsB leaf K V C) := node_stands_p leaf K V C hv hc k hk
theorem node_right_p (leaf : Bool) (K V : List ByteArray) (C : List Int) (root : Bool) (hv : V.length ≤ 1000) (hc : C.length ≤ 1000) (k : Nat) (hk : 12 ≤ k) :
    P.node_Right.f k leaf K V C root = some (rightB leaf K V C root) := by
  unfold P.node_Right.f rightB
  rw [node_stands_p leaf K V C hv hc k hk, Option.bind_some]
  cases standsB leaf K V C
  · simp
  · by_cases h : K.length ≤ 8
    · rw [if_pos rfl, if_pos (by omega)]
      cases root
      · rw [if_neg (by simp)]; simp only [h, decide_true, Bool.true_and, Bool.false_or, Option.some.injEq]; rw [Bool.eq_iff_iff]; simp; omega
      · simp [h]
    · rw [if_pos rfl, if_neg (by omega)]
      simp [h]
theorem ref_l2 (leaf : Bool) (K V : List ByteArray) (C : List Int) (hl : K.length ≤ 9) (hc : C.length ≤ 1000) : ∀ m i k : Nat, i + m = C.length → m + 1 ≤ k →
    peneloperef07_Stands.l2 k C (C.length : Int) i leaf K V C = some ((C.drop i).all (fun b => decide (10 ≤ b ∧ b ≤ 2047)) && (if leaf = true then decide (V.length = K.length) && decide (C.length = 0) else decide (V.length = 0) && (decide (1 ≤ K.length) && decide (C.length = K.length + 1)))) := by
  intro m
  induction m with
  | zero =>
    intro i k hi hk
    obtain ⟨k, rfl⟩ : ∃ q, k = q + 1 := ⟨k - 1, by omega⟩
    rw [peneloperef07_Stands.l2, if_neg (by omega), List.drop_eq_nil_of_le (by omega), List.all_nil, Bool.true_and]
    cases leaf
    · simp only [Bool.false_eq_true, if_false]
      by_cases h1 : V.length = 0
      case neg => rw [if_neg (by omega)]; simp [h1]
      rw [if_pos (by omega)]
      by_cases h2 : 1 ≤ K.length
      case neg => rw [if_neg (by omega)]; simp [h2]
      rw [if_pos (by omega), w64_in _ (by omega)]
      simp only [h1, h2, decide_true, Bool.true_and, Option.some.injEq]
      rw [Bool.eq_iff_iff]; simp; omega
    · simp only [if_true]
      by_cases h2 : V.length = K.length
      case neg => rw [if_neg (by omega)]; simp [h2]
      rw [if_pos (by omega)]
      simp only [h2, decide_true, Bool.true_and, Option.some.injEq]
      rw [Bool.eq_iff_iff]; simp
  | succ m ih =>
    intro i k hi hk
    obtain ⟨k, rfl⟩ : ∃ q, k = q + 1 := ⟨k - 1, by omega⟩
    have hr : rd C (i : Int) = C[i]'(by omega) := by simp [rd, List.getD_eq_getElem?_getD, List.getElem?_eq_getElem (show i < C.length by omega)]
    rw [peneloperef07_Stands.l2, if_pos (by omega), if_pos (by omega), if_pos (by omega), hr,
      show wrap64 ((i : Int) + 1) = ((i + 1 : Nat) : Int) by rw [w64_in _ (by omega)]; omega, ih (i + 1) k (by omega) (by omega), List.drop_eq_getElem_cons (show i < C.length by omega), List.all_cons]
    generalize C[i]'(by omega) = b
    by_cases h1 : b < 10
    · rw [if_pos h1, decide_eq_false (show ¬ (10 ≤ b ∧ b ≤ 2047) by omega)]; rfl
    rw [if_neg h1]
    by_cases h2 : b > 2047
    · rw [if_pos h2, decide_eq_false (show ¬ (10 ≤ b ∧ b ≤ 2047) by omega)]; rfl
    rw [if_neg h2, decide_eq_true (show (10 ≤ b ∧ b ≤ 2047) by omega)]; rfl
theorem ref_l1 (leaf : Bool) (K V : List ByteArray) (C : List Int) (hl : K.length ≤ 9) (hv : V.length ≤ 1000) (hc : C.length ≤ 1000) : ∀ m i k : Nat, i + m = V.length → m + C.length + 2 ≤ k →
    peneloperef07_Stands.l1 k V (V.length : Int) i leaf K V C = some ((V.drop i).all (fun v => decide (v.size ≤ 200)) && (C.all (fun b => decide (10 ≤ b ∧ b ≤ 2047)) && (if leaf = true then decide (V.length = K.length) && decide (C.length = 0) else decide (V.length = 0) && (decide (1 ≤ K.length) && decide (C.length = K.length + 1))))) := by
  intro m
  induction m with
  | zero =>
    intro i k hi hk
    obtain ⟨k, rfl⟩ : ∃ q, k = q + 1 := ⟨k - 1, by omega⟩
    rw [peneloperef07_Stands.l1, if_neg (by omega), show (0 : Int) = ((0 : Nat) : Int) from rfl, ref_l2 leaf K V C hl hc C.length 0 k (by omega) (by omega)]
    rw [show V.drop i = [] from List.drop_eq_nil_of_le (by omega)]
    simp
  | succ m ih =>
    intro i k hi hk
    obtain ⟨k, rfl⟩ : ∃ q, k = q + 1 := ⟨k - 1, by omega⟩
    rw [peneloperef07_Stands.l1, if_pos (by omega), if_pos (by omega), if_pos (by omega), rdOf_nat,
      show wrap64 ((i : Int) + 1) = ((i + 1 : Nat) : Int) by rw [w64_in _ (by omega)]; omega, ih (i + 1) k (by omega) (by omega), List.drop_eq_getElem_cons (show i < V.length by omega), List.all_cons]
    have hr : key V i = V[i]'(by omega) := by simp [key, List.getD_eq_getElem?_getD, List.getElem?_eq_getElem (show i < V.length by omega)]
    rw [hr]
    by_cases h1 : (V[i]'(by omega)).size ≤ 200
    · rw [if_neg (by omega), decide_eq_true h1]; rfl
    · rw [if_pos (by omega), decide_eq_false h1]; rfl
theorem ref_l0 (leaf : Bool) (K V : List ByteArray) (C : List Int) (hl : K.length ≤ 9) (hv : V.length ≤ 1000) (hc : C.length ≤ 1000) : ∀ m i k : Nat, i + m = K.length → m + V.length + C.length + 3 ≤ k →
    peneloperef07_Stands.l0 k K (K.length : Int) i leaf K V C = some ((List.range' i m).all (okAt K) && (V.all (fun v => decide (v.size ≤ 200)) && (C.all (fun b => decide (10 ≤ b ∧ b ≤ 2047)) && (if leaf = true then decide (V.length = K.length) && decide (C.length = 0) else decide (V.length = 0) && (decide (1 ≤ K.length) && decide (C.length = K.length + 1)))))) := by
  intro m
  induction m with
  | zero =>
    intro i k hi hk
    obtain ⟨k, rfl⟩ : ∃ q, k = q + 1 := ⟨k - 1, by omega⟩
    rw [peneloperef07_Stands.l0, if_neg (by omega), show (0 : Int) = ((0 : Nat) : Int) from rfl, ref_l1 leaf K V C hl hv hc V.length 0 k (by omega) (by omega)]
    simp
  | succ m ih =>
    intro i k hi hk
    obtain ⟨k, rfl⟩ : ∃ q, k = q + 1 := ⟨k - 1, by omega⟩
    rw [peneloperef07_Stands.l0, if_pos (by omega), if_pos (by omega), if_pos (by omega), rdOf_nat, ok_step K i _ _ _ (by omega) (by omega) (.inr rfl),
      show wrap64 ((i : Int) + 1) = ((i + 1 : Nat) : Int) by rw [w64_in _ (by omega)]; omega, ih (i + 1) k (by omega) (by omega)]
    rw [List.range'_succ, List.all_cons]
    cases okAt K i <;> simp
theorem ref_stands_f (leaf : Bool) (K V : List ByteArray) (C : List Int) (hv : V.length ≤ 1000) (hc : C.length ≤ 1000) (k : Nat) (hk : 3000 ≤ k) :
    peneloperef07_Stands.f k leaf K V C = some (standsB leaf K V C) := by
  unfold peneloperef07_Stands.f standsB keysB
  by_cases hl : K.length ≤ 9
  · rw [if_neg (by omega), show (0 : Int) = ((0 : Nat) : Int) from rfl, ref_l0 leaf K V C hl (by omega) (by omega) K.length 0 k (by omega) (by omega)]
    rw [decide_eq_true hl, Bool.true_and]
    congr 2
    unfold tailB
    cases leaf
    · simp only [Bool.false_eq_true, if_false]
      by_cases h1 : V.length = 0
      · obtain rfl := List.eq_nil_of_length_eq_zero h1
        simp only [List.all_nil, Bool.true_and, List.length_nil, decide_true]
        generalize C.all (fun b => decide (10 ≤ b ∧ b ≤ 2047)) = x
        generalize decide (1 ≤ K.length) = y
        generalize decide (C.length = K.length + 1) = z
        cases x <;> cases y <;> cases z <;> rfl
      · simp [h1]
    · simp only [if_true]
      by_cases h1 : C.length = 0
      · obtain rfl := List.eq_nil_of_length_eq_zero h1
        simp [Bool.and_comm]
      · simp [h1]
  · rw [if_pos (by omega)]
    simp [hl]
theorem put1 (k : Nat) (hk : 4 ≤ k) {n : Int} (h0 : 0 ≤ n) (h1 : n < 256) : P.code_Put.f k n 1 = some (strOfNums [n % 256], 0) := by
  obtain ⟨k, rfl⟩ : ∃ m, k = m + 4 := ⟨k - 4, by omega⟩
  have e : n / 256 = 0 := by omega
  unfold P.code_Put.f
  rw [if_neg (by omega), if_neg (by omega), if_neg (by omega)]
  simp [P.code_Put.j0, P.code_Put.l0, wrap64, shr, e, IntKind.bits]
theorem put2 (k : Nat) (hk : 5 ≤ k) {n : Int} (h0 : 0 ≤ n) (h1 : n < 65536) : P.code_Put.f k n 2 = some (strOfNums [n / 256 % 256, n % 256], 0) := by
  obtain ⟨k, rfl⟩ : ∃ m, k = m + 5 := ⟨k - 5, by omega⟩
  have e : n / 65536 = 0 := by omega
  unfold P.code_Put.f
  rw [if_neg (by omega), if_neg (by omega), if_neg (by omega)]
  simp [P.code_Put.j0, P.code_Put.l0, wrap64, shr, e, IntKind.bits, List.replicate]
/-- A byte of a number. -/
def ub (n : Int) : UInt8 := UInt8.ofNat n.toNat
def mkB (l : List UInt8) : ByteArray := ⟨l.toArray⟩
theorem mkB_list (l : List UInt8) : (mkB l).data.toList = l := by simp [mkB]
theorem mkB_of (b : ByteArray) : mkB b.data.toList = b := by cases b; simp [mkB]
/-- A number in two bytes, and a text and its length ahead of it. -/
def two (n : Int) : List UInt8 := [ub (n / 256 % 256), ub (n % 256)]
def txt (s : ByteArray) : List UInt8 := two (s.size : Int) ++ s.data.toList
theorem txt_len (s : ByteArray) : (txt s).length = s.size + 2 := by
  unfold txt two
  rw [List.length_append, ← Go.Lib.size_eq]; simp only [List.length_cons, List.length_nil]; omega
theorem all2 (a b : List UInt8) (h : a.length + b.length ≤ 100000) : code_All.f [mkB a, mkB b] = some (mkB (a ++ b)) := by
  have e : catL [mkB a, mkB b] = a ++ b := by simp [catL, mkB]
  unfold code_All.f
  rw [e, if_pos ⟨by rw [List.length_append]; omega, by simp⟩]
  rfl
theorem strTwo (n : Int) : strOfNums [n / 256 % 256, n % 256] = mkB (two n) := rfl
theorem text_p (k : Nat) (hk : 5 ≤ k) (s : ByteArray) (h : s.size ≤ 65535) : P.code_Text.f k s = some (mkB (txt s), 0) := by
  unfold P.code_Text.f
  rw [if_neg (by omega), put2 k hk (by omega) (by omega)]
  simp only [Option.bind_some]
  have e := all2 (two (s.size : Int)) s.data.toList (by rw [← Go.Lib.size_eq]; simp [two]; omega)
  rw [mkB_of] at e
  rw [strTwo, e]
  rfl
theorem textF_p (k : Nat) (hk : 5 ≤ k) (o : List UInt8) (s : ByteArray) (h : s.size ≤ 65535) (ho : o.length ≤ 10000) : textF k (mkB o) s = some (mkB (o ++ txt s)) := by
  unfold textF
  rw [text_p k hk s h, Option.bind_some]
  exact all2 _ _ (by rw [txt_len]; omega)
def leafB : List ByteArray → List ByteArray → List UInt8
  | x :: xs, v :: vs => txt x ++ (txt v ++ leafB xs vs)
  | _, _ => []
def kidB : List Int → List ByteArray → List UInt8
  | [], _ => []
  | b :: bs, [] => two b ++ kidB bs []
  | b :: bs, x :: xs => two b ++ (txt x ++ kidB bs xs)
def putB (leaf : Bool) (K V : List ByteArray) (C : List Int) : List UInt8 := ub ((K.length : Int) % 256) :: (if leaf = true then leafB K V else kidB C K)
theorem leaf_p (k : Nat) (hk : 5 ≤ k) : ∀ (K V : List ByteArray) (o : List UInt8), V.length = K.length → (∀ x ∈ K, x.size ≤ 200) → (∀ x ∈ V, x.size ≤ 200) → o.length + 500 * K.length ≤ 9000 → putLeaf k K V (mkB o) = some (mkB (o ++ leafB K V))
  | [], V, o, _, _, _, _ => by cases V <;> simp [putLeaf, leafB]
  | x :: xs, [], o, h, _, _, _ => by simp at h
  | x :: xs, v :: vs, o, h, hK, hV, ho => by
    have h1 := hK x (by simp)
    have h2 := hV v (by simp)
    simp only [List.length_cons] at h ho
    rw [putLeaf, textF_p k hk o x (by omega) (by omega), Option.bind_some, textF_p k hk _ v (by omega) (by rw [List.length_append, txt_len]; omega), Option.bind_some,
      leaf_p k hk xs vs _ (by omega) (fun y hy => hK y (by simp [hy])) (fun y hy => hV y (by simp [hy])) (by rw [List.length_append, List.length_append, txt_len, txt_len]; omega), leafB]
    simp [List.append_assoc]
theorem kid_p (k : Nat) (hk : 5 ≤ k) : ∀ (C : List Int) (K : List ByteArray) (o : List UInt8), (∀ x ∈ C, 0 ≤ x ∧ x < 65536) → (∀ x ∈ K, x.size ≤ 200) → o.length + 300 * C.length ≤ 9000 → putKid k C K (mkB o) = some (mkB (o ++ kidB C K))
  | [], K, o, _, _, _ => by cases K <;> simp [putKid, kidB]
  | b :: bs, [], o, hC, hK, ho => by
    have h1 := hC b (by simp)
    simp only [List.length_cons] at ho
    rw [putKid, put2 k hk h1.1 h1.2, Option.bind_some, strTwo, all2 _ _ (by simp [two]; omega), Option.bind_some,
      kid_p k hk bs [] _ (fun y hy => hC y (by simp [hy])) hK (by rw [List.length_append]; simp [two]; omega), kidB]
    simp [List.append_assoc]
  | b :: bs, x :: xs, o, hC, hK, ho => by
    have h1 := hC b (by simp)
    have h2 := hK x (by simp)
    simp only [List.length_cons] at ho
    rw [putKid, put2 k hk h1.1 h1.2, Option.bind_some, strTwo, all2 _ _ (by simp [two]; omega), Option.bind_some, textF_p k hk _ x (by omega) (by rw [List.length_append]; simp [two]; omega), Option.bind_some,
      kid_p k hk bs xs _ (fun y hy => hC y (by simp [hy])) (fun y hy => hK y (by simp [hy])) (by rw [List.length_append, List.length_append, txt_len]; simp [two]; omega), kidB]
    simp [List.append_assoc]
/-- What a node that may stand is. -/
theorem stands_of {leaf : Bool} {K V : List ByteArray} {C : List Int} (h : standsB leaf K V C = true) :
    K.length ≤ 9 ∧ (∀ i, i < K.length → okAt K i = true) ∧ (∀ x ∈ K, 1 ≤ x.size ∧ x.size ≤ 32) ∧ (leaf = true → C = [] ∧ V.length = K.length ∧ ∀ v ∈ V, v.size ≤ 200) ∧ (leaf = false → V = [] ∧ 1 ≤ K.length ∧ C.length = K.length + 1 ∧ ∀ b ∈ C, 10 ≤ b ∧ b ≤ 2047) := by
  unfold standsB keysB tailB at h
  simp only [Bool.and_eq_true, decide_eq_true_eq, List.all_eq_true] at h
  obtain ⟨h1, h2, h3⟩ := h
  have h2' : ∀ i, i < K.length → okAt K i = true := fun i hi => h2 i (by rw [List.mem_range'_1]; omega)
  refine ⟨h1, h2', fun x hx => ?_, fun hl => ?_, fun hl => ?_⟩
  · obtain ⟨i, hi, rfl⟩ := List.mem_iff_getElem.1 hx
    have := h2' i hi
    unfold okAt at this
    have e : key K i = K[i] := by simp [key, List.getD_eq_getElem?_getD, List.getElem?_eq_getElem hi]
    rw [e] at this
    simp only [Bool.and_eq_true, decide_eq_true_eq] at this
    exact ⟨this.1, this.2.1⟩
  · subst hl
    simp only [if_true, Bool.and_eq_true, decide_eq_true_eq, List.all_eq_true] at h3
    exact ⟨List.eq_nil_of_length_eq_zero h3.1, h3.2.1, h3.2.2⟩
  · subst hl
    simp only [Bool.false_eq_true, if_false, Bool.and_eq_true, decide_eq_true_eq, List.all_eq_true] at h3
    exact ⟨List.eq_nil_of_length_eq_zero h3.1, h3.2.1, h3.2.2.1, h3.2.2.2⟩
theorem put_f (leaf : Bool) (K V : List ByteArray) (C : List Int) (hv : V.length ≤ 1000) (hc : C.length ≤ 1000) (k : Nat) (hk : 12 ≤ k) :
    node_Put.f k leaf K V C = some (if rightB leaf K V C true = true then (mkB (putB leaf K V C), 0) else (⟨#[]⟩, 1)) := by
  unfold node_Put.f
  rw [node_right_p leaf K V C true hv hc k hk, Option.bind_some]
  cases hr : rightB leaf K V C true
  · rfl
  · rw [if_neg (by simp), if_pos rfl]
    have hs : standsB leaf K V C = true := by
      unfold rightB at hr
      simp only [Bool.and_eq_true] at hr
      exact hr.1
    obtain ⟨h1, _, h3, h4, h5⟩ := stands_of hs
    rw [put1 k (by omega) (by omega) (by omega), Option.bind_some]
    cases leaf
    · obtain ⟨rfl, g2, g3, g4⟩ := h5 rfl
      simp only [Bool.false_eq_true, if_false]
      rw [if_pos (by omega)]
      rw [show strOfNums [(K.length : Int) % 256] = mkB [ub ((K.length : Int) % 256)] from rfl, kid_p k (by omega) C K _ (fun x hx => by have := g4 x hx; omega) (fun x hx => by have := h3 x hx; omega) (by simp; omega)]
      simp [putB]
    · obtain ⟨rfl, g2, g3⟩ := h4 rfl
      simp only [if_true]
      rw [if_pos (by omega)]
      rw [show strOfNums [(K.length : Int) % 256] = mkB [ub ((K.length : Int) % 256)] from rfl, leaf_p k (by omega) K V _ g2 (fun x hx => by have := h3 x hx; omega) g3 (by simp; omega)]
      simp [putB]
theorem alive_f (k : Nat) (hk : 12 ≤ k) : penelopelaw07_alive.f k = some true := by
  unfold penelopelaw07_alive.f
  have e : rightB true [] [] [] true = true := by simp [rightB, standsB, keysB, tailB]
  rw [put_f true [] [] [] (by simp) (by simp) k hk, Option.bind_some, e, if_pos rfl]
  simp only [if_true, Go.Lib.toList_data, mkB_list]
  rfl
end Go.Proofs.Ytmnkabdaapiikaa.Pure
/- Nodes parted and put together: the plain value of what the code computes (node.Cut, node.Join). -/
namespace Go.Proofs.Ytmnkabdaapiikaa.Pure
open Go.RowKit Go.Proofs.Ytmnkabdaapiikaa.C Go.Proofs.YtmnkabdaapiikaaW.PrintWords Go.Proofs.YtmnkabdaapiikaaW.PrintLast
set_option linter.unusedVariables false

theorem same_l (x : List ByteArray) (hx : x.length ≤ 1000) : ∀ m i k, i + m = x.length → m + 1 ≤ k → peneloperef07_same.l0 k x x (x.length : Int) (i : Int) = some true := by
  intro m
  induction m with
  | zero =>
    intro i k hi hk
    obtain ⟨k, rfl⟩ : ∃ q, k = q + 1 := ⟨k - 1, by omega⟩
    rw [peneloperef07_same.l0, if_neg (by omega)]
  | succ m ih =>
    intro i k hi hk
    obtain ⟨k, rfl⟩ : ∃ q, k = q + 1 := ⟨k - 1, by omega⟩
    rw [peneloperef07_same.l0, if_pos (by omega), if_pos (by omega), if_pos (by omega), if_pos (by omega), if_pos rfl, show wrap64 ((i : Int) + 1) = ((i + 1 : Nat) : Int) by rw [w64_in _ (by omega)]; omega, ih (i + 1) k (by omega) (by omega)]
theorem same_self (k : Nat) (hk : 1002 ≤ k) (x : List ByteArray) (hx : x.length ≤ 1000) : peneloperef07_same.f k x x = some true := by
  unfold peneloperef07_same.f
  rw [if_pos rfl, show (0 : Int) = ((0 : Nat) : Int) from rfl, same_l x hx x.length 0 k (by omega) (by omega)]
theorem like_l (l : Bool) (K V : List ByteArray) (C : List Int) (hx : C.length ≤ 1000) : ∀ m i k, i + m = C.length → m + 1 ≤ k → peneloperef07_Like.l0 k (C.length : Int) (i : Int) l K V C l K V C = some true := by
  intro m
  induction m with
  | zero =>
    intro i k hi hk
    obtain ⟨k, rfl⟩ : ∃ q, k = q + 1 := ⟨k - 1, by omega⟩
    rw [peneloperef07_Like.l0, if_neg (by omega)]
  | succ m ih =>
    intro i k hi hk
    obtain ⟨k, rfl⟩ : ∃ q, k = q + 1 := ⟨k - 1, by omega⟩
    rw [peneloperef07_Like.l0, if_pos (by omega), if_pos (by omega), if_pos (by omega), if_pos (by omega), if_pos rfl, show wrap64 ((i : Int) + 1) = ((i + 1 : Nat) : Int) by rw [w64_in _ (by omega)]; omega, ih (i + 1) k (by omega) (by omega)]
theorem like_self (k : Nat) (hk : 2000 ≤ k) (l : Bool) (K V : List ByteArray) (C : List Int) (h1 : K.length ≤ 1000) (h2 : V.length ≤ 1000) (h3 : C.length ≤ 1000) : peneloperef07_Like.f k l K V C l K V C = some true := by
  obtain ⟨k, rfl⟩ : ∃ q, k = q + 1 := ⟨k - 1, by omega⟩
  unfold peneloperef07_Like.f
  rw [if_neg (by simp), same_self (k + 1) (by omega) K h1, Option.bind_some, if_pos rfl, same_self (k + 1) (by omega) V h2, Option.bind_some, if_pos rfl, peneloperef07_Like.j0, if_neg (by simp), show (0 : Int) = ((0 : Nat) : Int) from rfl]
  exact like_l l K V C h3 C.length 0 k (by omega) (by omega)

/-! rows one behind the other -/
theorem cat_s1 (X : List (List ByteArray)) (hn : X.length ≤ 5) (hx : ∀ x ∈ X, x.length ≤ 1000) : ∀ m i k (o : List ByteArray), i + m = X.length → m + 1 ≤ k → o.length ≤ 1000 * i →
    slices_Concat_string_string.l1 k o X (X.length : Int) (i : Int) = some (o ++ (X.drop i).flatten) := by
  intro m
  induction m with
  | zero =>
    intro i k o hi hk ho
    obtain ⟨k, rfl⟩ : ∃ q, k = q + 1 := ⟨k - 1, by omega⟩
    rw [slices_Concat_string_string.l1, if_neg (by omega), List.drop_eq_nil_of_le (by omega)]
    simp
  | succ m ih =>
    intro i k o hi hk ho
    obtain ⟨k, rfl⟩ : ∃ q, k = q + 1 := ⟨k - 1, by omega⟩
    have e : K.rd_L1 X (i : Int) = X[i]'(by omega) := by simp [K.rd_L1, List.getD_eq_getElem?_getD, List.getElem?_eq_getElem (show i < X.length by omega)]
    have hl := hx (X[i]'(by omega)) (List.getElem_mem _)
    rw [slices_Concat_string_string.l1, e, if_pos (by omega), if_pos (by omega), if_pos (by omega), if_pos (by omega), show wrap64 ((i : Int) + 1) = ((i + 1 : Nat) : Int) by rw [w64_in _ (by omega)]; omega,
      ih (i + 1) k _ (by omega) (by omega) (by rw [List.length_append]; omega), List.drop_eq_getElem_cons (show i < X.length by omega), List.flatten_cons, List.append_assoc]
theorem cat_s0 (X : List (List ByteArray)) (hn : X.length ≤ 5) (hx : ∀ x ∈ X, x.length ≤ 1000) : ∀ m i k (t : Int), i + m = X.length → m + X.length + 3 ≤ k → 0 ≤ t → t ≤ 1000 * i →
    slices_Concat_string_string.l0 k X t X (X.length : Int) (i : Int) = some X.flatten := by
  intro m
  induction m with
  | zero =>
    intro i k t hi hk h0 ht
    obtain ⟨k, rfl⟩ : ∃ q, k = q + 1 := ⟨k - 1, by omega⟩
    rw [slices_Concat_string_string.l0, if_neg (by omega), if_pos (by omega), show (0 : Int) = ((0 : Nat) : Int) from rfl, cat_s1 X hn hx X.length 0 k [] (by omega) (by omega) (by simp)]
    simp
  | succ m ih =>
    intro i k t hi hk h0 ht
    obtain ⟨k, rfl⟩ : ∃ q, k = q + 1 := ⟨k - 1, by omega⟩
    have e : K.rd_L1 X (i : Int) = X[i]'(by omega) := by simp [K.rd_L1, List.getD_eq_getElem?_getD, List.getElem?_eq_getElem (show i < X.length by omega)]
    have hl := hx (X[i]'(by omega)) (List.getElem_mem _)
    rw [slices_Concat_string_string.l0, e, if_pos (by omega), if_pos (by omega), if_pos (by omega), w64_in (t + _) (by omega), if_neg (by omega), show wrap64 ((i : Int) + 1) = ((i + 1 : Nat) : Int) by rw [w64_in _ (by omega)]; omega,
      ih (i + 1) k _ (by omega) (by omega) (by omega) (by omega)]
theorem cat_s (X : List (List ByteArray)) (hn : X.length ≤ 5) (hx : ∀ x ∈ X, x.length ≤ 1000) (k : Nat) (hk : 20 ≤ k) : node_rows_string.f k X = some X.flatten := by
  unfold node_rows_string.f slices_Concat_string_string.f
  rw [show (0 : Int) = ((0 : Nat) : Int) from rfl, cat_s0 X hn hx X.length 0 k _ (by omega) (by omega) (by omega) (by omega), Option.bind_some]
theorem cat_i1 (X : List (List Int)) (hn : X.length ≤ 5) (hx : ∀ x ∈ X, x.length ≤ 1000) : ∀ m i k (o : List Int), i + m = X.length → m + 1 ≤ k → o.length ≤ 1000 * i →
    slices_Concat_int_int.l1 k o X (X.length : Int) (i : Int) = some (o ++ (X.drop i).flatten) := by
  intro m
  induction m with
  | zero =>
    intro i k o hi hk ho
    obtain ⟨k, rfl⟩ : ∃ q, k = q + 1 := ⟨k - 1, by omega⟩
    rw [slices_Concat_int_int.l1, if_neg (by omega), List.drop_eq_nil_of_le (by omega)]
    simp
  | succ m ih =>
    intro i k o hi hk ho
    obtain ⟨k, rfl⟩ : ∃ q, k = q + 1 := ⟨k - 1, by omega⟩
    have e : K.rd_L4 X (i : Int) = X[i]'(by omega) := by simp [K.rd_L4, List.getD_eq_getElem?_getD, List.getElem?_eq_getElem (show i < X.length by omega)]
    have hl := hx (X[i]'(by omega)) (List.getElem_mem _)
    rw [slices_Concat_int_int.l1, e, if_pos (by omega), if_pos (by omega), if_pos (by omega), if_pos (by omega), show wrap64 ((i : Int) + 1) = ((i + 1 : Nat) : Int) by rw [w64_in _ (by omega)]; omega,
      ih (i + 1) k _ (by omega) (by omega) (by rw [List.length_append]; omega), List.drop_eq_getElem_cons (show i < X.length by omega), List.flatten_cons, List.append_assoc]
theorem cat_i0 (X : List (List Int)) (hn : X.length ≤ 5) (hx : ∀ x ∈ X, x.length ≤ 1000) : ∀ m i k (t : Int), i + m = X.length → m + X.length + 3 ≤ k → 0 ≤ t → t ≤ 1000 * i →
    slices_Concat_int_int.l0 k X t X (X.length : Int) (i : Int) = some X.flatten := by
  intro m
  induction m with
  | zero =>
    intro i k t hi hk h0 ht
    obtain ⟨k, rfl⟩ : ∃ q, k = q + 1 := ⟨k - 1, by omega⟩
    rw [slices_Concat_int_int.l0, if_neg (by omega), if_pos (by omega), show (0 : Int) = ((0 : Nat) : Int) from rfl, cat_i1 X hn hx X.length 0 k [] (by omega) (by omega) (by simp)]
    simp
  | succ m ih =>
    intro i k t hi hk h0 ht
    obtain ⟨k, rfl⟩ : ∃ q, k = q + 1 := ⟨k - 1, by omega⟩
    have e : K.rd_L4 X (i : Int) = X[i]'(by omega) := by simp [K.rd_L4, List.getD_eq_getElem?_getD, List.getElem?_eq_getElem (show i < X.length by omega)]
    have hl := hx (X[i]'(by omega)) (List.getElem_mem _)
    rw [slices_Concat_int_int.l0, e, if_pos (by omega), if_pos (by omega), if_pos (by omega), w64_in (t + _) (by omega), if_neg (by omega), show wrap64 ((i : Int) + 1) = ((i + 1 : Nat) : Int) by rw [w64_in _ (by omega)]; omega,
      ih (i + 1) k _ (by omega) (by omega) (by omega) (by omega)]
theorem cat_i (X : List (List Int)) (hn : X.length ≤ 5) (hx : ∀ x ∈ X, x.length ≤ 1000) (k : Nat) (hk : 20 ≤ k) : node_rows_int.f k X = some X.flatten := by
  unfold node_rows_int.f slices_Concat_int_int.f
  rw [show (0 : Int) = ((0 : Nat) : Int) from rfl, cat_i0 X hn hx X.length 0 k _ (by omega) (by omega) (by omega) (by omega), Option.bind_some]
theorem all1 {α : Type} {x : List α} (h : x.length ≤ 1000) : ∀ y ∈ [x], y.length ≤ 1000 := by simp [h]
theorem all2_ {α : Type} {x y : List α} (h : x.length ≤ 1000) (h2 : y.length ≤ 1000) : ∀ z ∈ [x, y], z.length ≤ 1000 := by simp [h, h2]
theorem all3 {α : Type} {x y z : List α} (h : x.length ≤ 1000) (h2 : y.length ≤ 1000) (h3 : z.length ≤ 1000) : ∀ u ∈ [x, y, z], u.length ≤ 1000 := by simp [h, h2, h3]

/-- What a node's parts are. -/
abbrev CutV := Bool × List ByteArray × List ByteArray × List Int × ByteArray × Bool × List ByteArray × List ByteArray × List Int × Int
def cutV (lf : Bool) (K V : List ByteArray) (C : List Int) : CutV :=
  if standsB lf K V C = true ∧ K.length = 9 then (if lf = true then (true, K.take 4, V.take 4, [], key K 4, true, K.drop 4, V.drop 4, [], 0) else (false, K.take 4, [], C.take 5, key K 4, false, K.drop 5, [], C.drop 5, 0)) else (false, [], [], [], ⟨#[]⟩, false, [], [], [], 1)
theorem cut_f (lf : Bool) (K V : List ByteArray) (C : List Int) (hk : K.length ≤ 40) (hv : V.length ≤ 40) (hc : C.length ≤ 40) (k : Nat) (h : 100 ≤ k) : node_Cut.f k lf K V C = some (cutV lf K V C) := by
  unfold node_Cut.f cutV
  rw [node_stands_f lf K V C (by omega) (by omega) k (by omega), Option.bind_some]
  cases hs : standsB lf K V C
  · simp
  by_cases h9 : K.length = 9
  case neg => rw [if_pos rfl, if_neg h9, if_neg (by simp [h9])]
  rw [if_pos rfl, if_pos h9, if_pos (show true = true ∧ K.length = 9 from ⟨rfl, h9⟩)]
  obtain ⟨_, _, _, h4, h5⟩ := stands_of hs
  have e4 : rdOf ByteArray.empty K 4 = key K 4 := rdOf_nat K 4
  have lt : ∀ {α : Type} (l : List α) (n : Nat), l.length ≤ 40 → (l.take n).length ≤ 1000 := fun l n hl => by rw [List.length_take]; omega
  have ld : ∀ {α : Type} (l : List α) (n : Nat), l.length ≤ 40 → (l.drop n).length ≤ 1000 := fun l n hl => by rw [List.length_drop]; omega
  cases lf
  · obtain ⟨_, _, hcl, _⟩ := h5 rfl
    simp only [Bool.false_eq_true, if_false]
    rw [if_pos (show 5 ≤ C.length by omega), cat_s _ (by simp) (all1 (lt K 4 hk)) k (by omega), Option.bind_some, cat_i _ (by simp) (all1 (lt C 5 hc)) k (by omega), Option.bind_some,
      cat_s _ (by simp) (all1 (ld K 5 hk)) k (by omega), Option.bind_some, cat_i _ (by simp) (all1 (ld C 5 hc)) k (by omega), Option.bind_some, e4]
    simp
  · obtain ⟨_, hvl, _⟩ := h4 rfl
    simp only [if_true]
    rw [if_pos (show 4 ≤ V.length by omega), cat_s _ (by simp) (all1 (lt K 4 hk)) k (by omega), Option.bind_some, cat_s _ (by simp) (all1 (lt V 4 hv)) k (by omega), Option.bind_some,
      cat_s _ (by simp) (all1 (ld K 4 hk)) k (by omega), Option.bind_some, cat_s _ (by simp) (all1 (ld V 4 hv)) k (by omega), Option.bind_some, e4]
    simp
def joinK (lf : Bool) (K : List ByteArray) (x : ByteArray) (L : List ByteArray) : List ByteArray := if lf = true then K ++ L else K ++ ([x] ++ L)
def joinV (lf1 : Bool) (K V : List ByteArray) (C : List Int) (x : ByteArray) (lf2 : Bool) (L U : List ByteArray) (D : List Int) : Bool × List ByteArray × List ByteArray × List Int × Int :=
  if (standsB lf1 K V C = true ∧ standsB lf2 L U D = true ∧ lf1 = lf2) ∧ standsB lf1 (joinK lf1 K x L) (V ++ U) (C ++ D) = true then (lf1, joinK lf1 K x L, V ++ U, C ++ D, 0) else (false, [], [], [], 1)
theorem join_f (lf1 : Bool) (K V : List ByteArray) (C : List Int) (x : ByteArray) (lf2 : Bool) (L U : List ByteArray) (D : List Int) (hk : K.length ≤ 40) (hv : V.length ≤ 40) (hc : C.length ≤ 40) (hk2 : L.length ≤ 40) (hv2 : U.length ≤ 40) (hc2 : D.length ≤ 40) (k : Nat) (h : 100 ≤ k) :
    node_Join.f k lf1 K V C x lf2 L U D = some (joinV lf1 K V C x lf2 L U D) := by
  unfold node_Join.f joinV
  rw [node_stands_f lf1 K V C (by omega) (by omega) k (by omega), Option.bind_some, node_stands_f lf2 L U D (by omega) (by omega) k (by omega), Option.bind_some]
  cases hs1 : standsB lf1 K V C
  · simp
  rw [if_pos rfl]
  cases hs2 : standsB lf2 L U D
  · simp
  rw [if_pos rfl]
  by_cases e : lf1 = lf2
  case neg => rw [if_neg e, if_neg (fun hh => e hh.1.2.2)]
  subst e
  rw [if_pos rfl, cat_s _ (by simp) (all2_ (by omega) (by omega)) k (by omega), Option.bind_some, cat_s _ (by simp) (all2_ (by omega) (by omega)) k (by omega), Option.bind_some, cat_i _ (by simp) (all2_ (by omega) (by omega)) k (by omega), Option.bind_some]
  have f2 : ∀ {α : Type} (a b : List α), [a, b].flatten = a ++ b := fun a b => by simp
  have f3 : ∀ {α : Type} (a b c : List α), [a, b, c].flatten = a ++ (b ++ c) := fun a b c => by simp
  rw [f2, f2, f2]
  have lv : (V ++ U).length ≤ 1000 := by rw [List.length_append]; omega
  have lc : (C ++ D).length ≤ 1000 := by rw [List.length_append]; omega
  unfold joinK
  cases lf1
  · simp only [Bool.false_eq_true, if_false]
    rw [cat_s _ (by simp) (all3 (by omega) (by simp) (by omega)) k (by omega), Option.bind_some, f3, node_stands_f false _ _ _ lv lc k (by omega), Option.bind_some]
    cases standsB false (K ++ ([x] ++ L)) (V ++ U) (C ++ D)
    · rw [if_neg (by simp), if_neg (fun hh => Bool.noConfusion hh.2)]
    · rw [if_pos rfl, if_pos (by simp)]
  · simp only [if_true]
    rw [node_stands_f true _ _ _ lv lc k (by omega), Option.bind_some]
    cases standsB true (K ++ L) (V ++ U) (C ++ D)
    · rw [if_neg (by simp), if_neg (fun hh => Bool.noConfusion hh.2)]
    · rw [if_pos rfl, if_pos (by simp)]
/-! parts of what stands -/
end Go.Proofs.Ytmnkabdaapiikaa.Pure
/- Nodes parted and put together: the plain value of what the reference computes (Cut, Join). -/
namespace Go.Proofs.Ytmnkabdaapiikaa.Pure
open Go.RowKit Go.Proofs.Ytmnkabdaapiikaa.C Go.Proofs.YtmnkabdaapiikaaW.PrintWords Go.Proofs.YtmnkabdaapiikaaW.PrintLast
set_option linter.unusedVariables false

theorem take_step {α : Type} (l : List α) (i n : Nat) (h : i < l.length) (hn : i < n) : (l.drop i).take (n - i) = l[i] :: (l.drop (i + 1)).take (n - (i + 1)) := by
  rw [List.drop_eq_getElem_cons h, show n - i = (n - (i + 1)) + 1 by omega, List.take_succ_cons]
theorem take_none {α : Type} (l : List α) (i n : Nat) (hn : n ≤ i) : (l.drop i).take (n - i) = [] := by
  rw [show n - i = 0 by omega, List.take_zero]
theorem rd_at {C : List Int} {i : Nat} (h : i < C.length) : rd C (i : Int) = C[i] := by simp [rd, List.getD_eq_getElem?_getD, List.getElem?_eq_getElem h]
theorem rdOf_at {K : List ByteArray} {i : Nat} (h : i < K.length) : rdOf ByteArray.empty K (i : Int) = K[i] := by simp [rdOf, List.getD_eq_getElem?_getD, List.getElem?_eq_getElem h]
theorem cut_l2 (lf : Bool) (K V : List ByteArray) (C : List Int) (h9 : 4 < K.length) (hc : C.length ≤ 40) (a1 a2 b1 b2 : List ByteArray) : ∀ m i k (a b : List Int), i + m = C.length → m + 1 ≤ k → a.length ≤ i → b.length ≤ i →
    peneloperef07_Cut.l2 k C (C.length : Int) (i : Int) lf K V C lf a1 a2 a lf b1 b2 b = some (lf, a1, a2, a ++ (C.drop i).take (5 - i), key K 4, lf, b1, b2, b ++ C.drop (max i 5)) := by
  intro m
  induction m with
  | zero =>
    intro i k a b hi hk ha hb
    obtain ⟨k, rfl⟩ : ∃ q, k = q + 1 := ⟨k - 1, by omega⟩
    have e4 : rdOf ByteArray.empty K 4 = key K 4 := rdOf_nat K 4
    rw [peneloperef07_Cut.l2, if_neg (by omega), if_pos (by omega), e4, List.drop_eq_nil_of_le (show C.length ≤ i by omega), List.drop_eq_nil_of_le (show C.length ≤ max i 5 by omega)]
    simp
  | succ m ih =>
    intro i k a b hi hk ha hb
    obtain ⟨k, rfl⟩ : ∃ q, k = q + 1 := ⟨k - 1, by omega⟩
    have hw : wrap64 ((i : Int) + 1) = ((i + 1 : Nat) : Int) := by rw [w64_in _ (by omega)]; omega
    rw [peneloperef07_Cut.l2, if_pos (by omega), if_pos (by omega), if_pos (by omega), rd_at (show i < C.length by omega), hw]
    by_cases h : i < 5
    · rw [if_pos (by omega), if_pos (by omega), ih (i + 1) k _ _ (by omega) (by omega) (by rw [List.length_append]; simp; omega) (by omega), take_step C i 5 (by omega) h, show max (i + 1) 5 = max i 5 by omega]
      simp
    · rw [if_neg (by omega), if_pos (by omega), ih (i + 1) k _ _ (by omega) (by omega) (by omega) (by rw [List.length_append]; simp; omega), take_none C i 5 (by omega), take_none C (i + 1) 5 (by omega), show max i 5 = i by omega, show max (i + 1) 5 = i + 1 by omega, List.drop_eq_getElem_cons (show i < C.length by omega)]
      simp
theorem cut_l1 (lf : Bool) (K V : List ByteArray) (C : List Int) (h9 : 4 < K.length) (hv : V.length ≤ 40) (hc : C.length ≤ 40) (a1 b1 : List ByteArray) : ∀ m i k (a b : List ByteArray), i + m = V.length → m + C.length + 2 ≤ k → a.length ≤ i → b.length ≤ i →
    peneloperef07_Cut.l1 k V (V.length : Int) (i : Int) lf K V C lf a1 a lf b1 b = some (lf, a1, a ++ (V.drop i).take (4 - i), C.take 5, key K 4, lf, b1, b ++ V.drop (max i 4), C.drop 5) := by
  intro m
  induction m with
  | zero =>
    intro i k a b hi hk ha hb
    obtain ⟨k, rfl⟩ : ∃ q, k = q + 1 := ⟨k - 1, by omega⟩
    rw [peneloperef07_Cut.l1, if_neg (by omega), show (0 : Int) = ((0 : Nat) : Int) from rfl, cut_l2 lf K V C h9 hc _ _ _ _ C.length 0 k [] [] (by omega) (by omega) (by simp) (by simp), List.drop_eq_nil_of_le (show V.length ≤ i by omega), List.drop_eq_nil_of_le (show V.length ≤ max i 4 by omega)]
    simp
  | succ m ih =>
    intro i k a b hi hk ha hb
    obtain ⟨k, rfl⟩ : ∃ q, k = q + 1 := ⟨k - 1, by omega⟩
    have hw : wrap64 ((i : Int) + 1) = ((i + 1 : Nat) : Int) := by rw [w64_in _ (by omega)]; omega
    rw [peneloperef07_Cut.l1, if_pos (by omega), if_pos (by omega), if_pos (by omega), rdOf_at (show i < V.length by omega), hw]
    by_cases h : i < 4
    · rw [if_pos (by omega), if_pos (by omega), ih (i + 1) k _ _ (by omega) (by omega) (by rw [List.length_append]; simp; omega) (by omega), take_step V i 4 (by omega) h, show max (i + 1) 4 = max i 4 by omega]
      simp
    · rw [if_neg (by omega), if_pos (by omega), ih (i + 1) k _ _ (by omega) (by omega) (by omega) (by rw [List.length_append]; simp; omega), take_none V i 4 (by omega), take_none V (i + 1) 4 (by omega), show max i 4 = i by omega, show max (i + 1) 4 = i + 1 by omega, List.drop_eq_getElem_cons (show i < V.length by omega)]
      simp
def cutS (lf : Bool) : Nat := if lf = true then 4 else 5
theorem cut_l0 (lf : Bool) (K V : List ByteArray) (C : List Int) (h9 : 4 < K.length) (hk : K.length ≤ 40) (hv : V.length ≤ 40) (hc : C.length ≤ 40) : ∀ m i k (a b : List ByteArray), i + m = K.length → m + V.length + C.length + 3 ≤ k → a.length ≤ i → b.length ≤ i →
    peneloperef07_Cut.l0 k K (K.length : Int) (i : Int) lf K V C lf a lf b = some (lf, a ++ (K.drop i).take (4 - i), V.take 4, C.take 5, key K 4, lf, b ++ K.drop (max i (cutS lf)), V.drop 4, C.drop 5) := by
  have hs : 4 ≤ cutS lf ∧ cutS lf ≤ 5 := by unfold cutS; split <;> omega
  intro m
  induction m with
  | zero =>
    intro i k a b hi hkk ha hb
    obtain ⟨k, rfl⟩ : ∃ q, k = q + 1 := ⟨k - 1, by omega⟩
    rw [peneloperef07_Cut.l0, if_neg (by omega), show (0 : Int) = ((0 : Nat) : Int) from rfl, cut_l1 lf K V C h9 hv hc _ _ V.length 0 k [] [] (by omega) (by omega) (by simp) (by simp), List.drop_eq_nil_of_le (show K.length ≤ i by omega), List.drop_eq_nil_of_le (show K.length ≤ max i (cutS lf) by omega)]
    simp
  | succ m ih =>
    intro i k a b hi hkk ha hb
    obtain ⟨k, rfl⟩ : ∃ q, k = q + 1 := ⟨k - 1, by omega⟩
    have hw : wrap64 ((i : Int) + 1) = ((i + 1 : Nat) : Int) := by rw [w64_in _ (by omega)]; omega
    rw [peneloperef07_Cut.l0, if_pos (by omega), if_pos (by omega), if_pos (by omega), rdOf_at (show i < K.length by omega), hw]
    by_cases h : i < 4
    · rw [if_pos (by omega), if_pos (by omega), ih (i + 1) k _ _ (by omega) (by omega) (by rw [List.length_append]; simp; omega) (by omega), take_step K i 4 (by omega) h, show max (i + 1) (cutS lf) = max i (cutS lf) by omega]
      simp
    rw [if_neg (by omega)]
    have put : ∀ s, s ≤ i → cutS lf ≤ i → peneloperef07_Cut.l0 k K (K.length : Int) ((i + 1 : Nat) : Int) lf K V C lf a lf (b ++ [K[i]'(by omega)]) = some (lf, a ++ (K.drop i).take (4 - i), V.take 4, C.take 5, key K 4, lf, b ++ K.drop (max i (cutS lf)), V.drop 4, C.drop 5) := fun s _ h2 => by
      rw [ih (i + 1) k _ _ (by omega) (by omega) (by omega) (by rw [List.length_append]; simp; omega), take_none K i 4 (by omega), take_none K (i + 1) 4 (by omega), show max i (cutS lf) = i by omega, show max (i + 1) (cutS lf) = i + 1 by omega, List.drop_eq_getElem_cons (show i < K.length by omega)]
      simp
    by_cases h5 : i > 4
    · rw [if_pos (by omega), if_pos (by omega), put i (by omega) (by omega)]
    · rw [if_neg (by omega)]
      cases lf
      · rw [if_neg (by simp), ih (i + 1) k _ _ (by omega) (by omega) (by omega) (by omega), take_none K i 4 (by omega), take_none K (i + 1) 4 (by omega), show max (i + 1) (cutS false) = max i (cutS false) by simp [cutS]; omega]
      · rw [if_pos rfl, if_pos (by omega), put i (by omega) (by simp [cutS]; omega)]
theorem refcut_f (lf : Bool) (K V : List ByteArray) (C : List Int) (h9 : 4 < K.length) (hk : K.length ≤ 40) (hv : V.length ≤ 40) (hc : C.length ≤ 40) (k : Nat) (h : 200 ≤ k) :
    peneloperef07_Cut.f k lf K V C = some (lf, K.take 4, V.take 4, C.take 5, key K 4, lf, K.drop (cutS lf), V.drop 4, C.drop 5) := by
  unfold peneloperef07_Cut.f
  rw [show (0 : Int) = ((0 : Nat) : Int) from rfl, cut_l0 lf K V C h9 hk hv hc K.length 0 k [] [] (by omega) (by omega) (by simp) (by simp)]
  simp
theorem refjoin_j (k : Nat) (hkk : 3000 ≤ k) (x : ByteArray) (lf : Bool) (K V : List ByteArray) (C : List Int) (lf2 : Bool) (L U : List ByteArray) (D : List Int) (hk : K.length ≤ 40) (hv : V.length ≤ 40) (hc : C.length ≤ 40) (hk2 : L.length ≤ 40) (hv2 : U.length ≤ 40) (hc2 : D.length ≤ 40) :
    peneloperef07_Join.j0 (k + 1) x false lf K V C lf2 L U D = some (if standsB lf (joinK lf K x L) (V ++ U) (C ++ D) = true then (lf, joinK lf K x L, V ++ U, C ++ D, 0) else (false, [], [], [], 1)) := by
  have lv : (V ++ U).length ≤ 1000 := by rw [List.length_append]; omega
  have lc : (C ++ D).length ≤ 1000 := by rw [List.length_append]; omega
  rw [peneloperef07_Join.j0, if_neg (by simp)]
  simp only [List.length_nil, List.nil_append, Option.bind_some, Nat.zero_add]
  unfold joinK
  cases lf
  · simp only [Bool.false_eq_true, if_false]
    rw [if_pos (by omega), if_pos (by omega), if_pos (by rw [List.length_append]; simp; omega), if_pos (by omega), if_pos (by omega), if_pos (by omega), if_pos (by omega), List.append_assoc, ref_stands_f false _ _ _ lv lc k hkk, Option.bind_some]
    cases standsB false (K ++ ([x] ++ L)) (V ++ U) (C ++ D) <;> simp
  · simp only [if_true]
    rw [if_pos (by omega), if_pos (by omega), if_pos (by omega), if_pos (by omega), if_pos (by omega), if_pos (by omega), ref_stands_f true _ _ _ lv lc k hkk, Option.bind_some]
    cases standsB true (K ++ L) (V ++ U) (C ++ D) <;> simp
theorem refjoin_f (lf1 : Bool) (K V : List ByteArray) (C : List Int) (x : ByteArray) (lf2 : Bool) (L U : List ByteArray) (D : List Int) (hk : K.length ≤ 40) (hv : V.length ≤ 40) (hc : C.length ≤ 40) (hk2 : L.length ≤ 40) (hv2 : U.length ≤ 40) (hc2 : D.length ≤ 40) (k : Nat) (h : 3001 ≤ k) :
    peneloperef07_Join.f k lf1 K V C x lf2 L U D = some (joinV lf1 K V C x lf2 L U D) := by
  obtain ⟨k, rfl⟩ : ∃ q, k = q + 1 := ⟨k - 1, by omega⟩
  have bad : peneloperef07_Join.j0 (k + 1) x true lf1 K V C lf2 L U D = some (false, [], [], [], 1) := by rw [peneloperef07_Join.j0, if_pos rfl]
  unfold peneloperef07_Join.f joinV
  rw [ref_stands_f lf1 K V C (by omega) (by omega) (k + 1) (by omega), Option.bind_some, ref_stands_f lf2 L U D (by omega) (by omega) (k + 1) (by omega), Option.bind_some, bad]
  cases hs1 : standsB lf1 K V C
  · simp
  rw [if_pos rfl]
  cases hs2 : standsB lf2 L U D
  · simp
  rw [if_pos rfl]
  by_cases e : lf1 = lf2
  case neg =>
    rw [show (lf1 != lf2) = true by simpa using e, bad, if_neg (fun hh => e hh.1.2.2)]
  subst e
  rw [show (lf1 != lf1) = false by simp, refjoin_j k (by omega) x lf1 K V C lf1 L U D hk hv hc hk2 hv2 hc2]
  cases standsB lf1 (joinK lf1 K x L) (V ++ U) (C ++ D) <;> simp
end Go.Proofs.Ytmnkabdaapiikaa.Pure
namespace Go.Proofs.Ytmnkabdaapiikaa.Pure
open Go.RowKit Go.Proofs.Ytmnkabdaapiikaa.C Go.Proofs.YtmnkabdaapiikaaW.PrintWords Go.Proofs.YtmnkabdaapiikaaW.PrintLast

theorem few_f (leaf : Bool) (K V : List ByteArray) (C : List Int) :
    penelopelaw07_few.f leaf K V C = some (leaf, K.take 30, V.take 30, C.take 30) := by
  have e : ∀ {α : Type} (l : List α), l.take (mn (l.length : Int) 30).toNat = l.take 30 := by
    intro α l
    have : (mn (l.length : Int) 30).toNat = min l.length 30 := by unfold mn; split <;> omega
    rw [this, List.take_eq_take_iff]; omega
  unfold penelopelaw07_few.f
  rw [e, e, e]
  have q : ∀ n : Nat, 0 ≤ mn (n : Int) 30 ∧ mn (n : Int) 30 ≤ n := by
    intro n; unfold mn; split <;> omega
  rw [if_pos (q _).1, if_pos (q _).2, if_pos (q _).1, if_pos (q _).2, if_pos (q _).1, if_pos (q _).2]
theorem cuts_tail (lf : Bool) (K V : List ByteArray) (C : List Int) (hk : K.length ≤ 40) (hv : V.length ≤ 40) (hc : C.length ≤ 40) (k : Nat) (h : 3200 ≤ k) : penelopelaw07_NodeCuts.j0 (k + 1 + 1) false lf K V C = some true := by
  rw [penelopelaw07_NodeCuts.j0, if_neg (by simp), cut_f lf K V C hk hv hc (k + 1) (by omega), Option.bind_some, ref_stands_f lf K V C (by omega) (by omega) (k + 1) (by omega), Option.bind_some]
  by_cases hs : standsB lf K V C = true ∧ K.length = 9
  case neg =>
    have e : cutV lf K V C = (false, [], [], [], ⟨#[]⟩, false, [], [], [], 1) := by unfold cutV; rw [if_neg hs]
    have bad : penelopelaw07_NodeCuts.j1 (k + 1) (⟨#[]⟩ : ByteArray) 1 true lf K V C false [] [] [] false [] [] [] = some true := by
      have e0_ : (⟨#[]⟩ : ByteArray).toList = [] := by first | kernel_rfl | decide | simp [ByteArray.toList, ByteArray.toList.loop]
      rw [penelopelaw07_NodeCuts.j1, if_pos rfl, if_pos rfl, if_pos e0_, like_self k (by omega) false [] [] [] (by simp) (by simp) (by simp), Option.bind_some, if_pos rfl, Option.bind_some]
    rw [e]
    dsimp only
    cases hb : standsB lf K V C
    · rw [if_neg (by simp), bad]
    · have h9 : ¬ K.length = 9 := fun x => hs ⟨hb, x⟩
      have hn : ((K.length : Int) != 9) = true := by simpa using (show ¬ (K.length : Int) = 9 by omega)
      rw [if_pos rfl, hn, bad]
  obtain ⟨hs, h9⟩ := hs
  have hn : ((K.length : Int) != 9) = false := by simp [h9]
  rw [if_pos hs, hn, penelopelaw07_NodeCuts.j1, if_neg (by simp), refcut_f lf K V C (by omega) hk hv hc k (by omega), Option.bind_some]
  obtain ⟨_, _, _, h4, h5⟩ := stands_of hs
  have lt : ∀ {α : Type} (l : List α) (n : Nat), l.length ≤ 40 → (l.take n).length ≤ 1000 := fun l n hl => by rw [List.length_take]; omega
  have ld : ∀ {α : Type} (l : List α) (n : Nat), l.length ≤ 40 → (l.drop n).length ≤ 1000 := fun l n hl => by rw [List.length_drop]; omega
  cases lf
  · obtain ⟨rfl, _⟩ := h5 rfl
    have e : cutV false K [] C = (false, K.take 4, [], C.take 5, key K 4, false, K.drop 5, [], C.drop 5, 0) := by unfold cutV; rw [if_pos ⟨hs, h9⟩, if_neg (by simp)]
    rw [e]
    dsimp only
    rw [if_pos rfl, if_pos rfl, show cutS false = 5 from rfl, List.take_nil, List.drop_nil, like_self k (by omega) false _ _ _ (lt K 4 hk) (by simp) (lt C 5 hc), Option.bind_some, if_pos rfl, like_self k (by omega) false _ _ _ (ld K 5 hk) (by simp) (ld C 5 hc), Option.bind_some]
  · obtain ⟨rfl, _⟩ := h4 rfl
    have e : cutV true K V [] = (true, K.take 4, V.take 4, [], key K 4, true, K.drop 4, V.drop 4, [], 0) := by unfold cutV; rw [if_pos ⟨hs, h9⟩, if_pos rfl]
    rw [e]
    dsimp only
    rw [if_pos rfl, if_pos rfl, show cutS true = 4 from rfl, List.take_nil, List.drop_nil, like_self k (by omega) true _ _ _ (lt K 4 hk) (lt V 4 hv) (by simp), Option.bind_some, if_pos rfl, like_self k (by omega) true _ _ _ (ld K 4 hk) (ld V 4 hv) (by simp), Option.bind_some]
theorem joinV_len (lf1 : Bool) (K V : List ByteArray) (C : List Int) (x : ByteArray) (lf2 : Bool) (L U : List ByteArray) (D : List Int) (hk : K.length ≤ 40) (hv : V.length ≤ 40) (hc : C.length ≤ 40) (hk2 : L.length ≤ 40) (hv2 : U.length ≤ 40) (hc2 : D.length ≤ 40) :
    (joinV lf1 K V C x lf2 L U D).2.1.length ≤ 1000 ∧ (joinV lf1 K V C x lf2 L U D).2.2.1.length ≤ 1000 ∧ (joinV lf1 K V C x lf2 L U D).2.2.2.1.length ≤ 1000 := by
  unfold joinV
  split
  · unfold joinK
    refine ⟨?_, ?_, ?_⟩
    · dsimp only; split <;> simp only [List.length_append, List.length_cons, List.length_nil] <;> omega
    · simp only [List.length_append]; omega
    · simp only [List.length_append]; omega
  · simp
theorem NodeCuts : penelopelaw07_NodeCuts.Pure := by
  intro x0 x x2 hw _ _
  obtain ⟨lf, K, V, C⟩ := x0
  obtain ⟨lf2, L, U, D⟩ := x2
  simp only at hw ⊢
  clear hw
  refine ⟨3998 + 1 + 1, ?_⟩
  unfold penelopelaw07_NodeCuts.f
  rw [few_f lf K V C, Option.bind_some, few_f lf2 L U D, Option.bind_some]
  dsimp only
  have e0 : (K.take 30).length ≤ 30 := by rw [List.length_take]; omega
  have e1 : (V.take 30).length ≤ 30 := by rw [List.length_take]; omega
  have e2 : (C.take 30).length ≤ 30 := by rw [List.length_take]; omega
  have e3 : (L.take 30).length ≤ 30 := by rw [List.length_take]; omega
  have e4 : (U.take 30).length ≤ 30 := by rw [List.length_take]; omega
  have e5 : (D.take 30).length ≤ 30 := by rw [List.length_take]; omega
  generalize K.take 30 = K at *
  generalize V.take 30 = V at *
  generalize C.take 30 = C at *
  generalize L.take 30 = L at *
  generalize U.take 30 = U at *
  generalize D.take 30 = D at *
  obtain ⟨j1, j2, j3⟩ := joinV_len lf K V C x lf2 L U D (by omega) (by omega) (by omega) (by omega) (by omega) (by omega)
  rw [join_f lf K V C x lf2 L U D (by omega) (by omega) (by omega) (by omega) (by omega) (by omega) _ (by omega), Option.bind_some, refjoin_f lf K V C x lf2 L U D (by omega) (by omega) (by omega) (by omega) (by omega) (by omega) _ (by omega), Option.bind_some, if_pos rfl,
    like_self _ (by omega) _ _ _ _ j1 j2 j3, Option.bind_some, if_pos rfl, alive_f _ (by omega), Option.bind_some]
  exact cuts_tail lf K V C (by omega) (by omega) (by omega) 3998 (by omega)
end Go.Proofs.Ytmnkabdaapiikaa.Pure
