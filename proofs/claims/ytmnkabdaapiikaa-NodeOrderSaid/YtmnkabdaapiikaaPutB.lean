/- The bytes of a node: the plain value of what the code and the reference write. -/
import Derived.Test.YtmnkabdaapiikaaBase
import Derived.Test.YtmnkabdaapiikaaXx4
import Derived.Test.YtmnkabdaapiikaaXx8
namespace Go.Proofs.Ytmnkabdaapiikaa.Pure
open Go.RowKit Go.Proofs.Ytmnkabdaapiikaa.X Go.Proofs.YtmnkabdaapiikaaW.PrintWords Go.Proofs.YtmnkabdaapiikaaW.PrintLast
set_option linter.unusedVariables false

theorem put1 (k : Nat) (hk : 4 ≤ k) {n : Int} (h0 : 0 ≤ n) (h1 : n < 256) : P.code_Put.f k n 1 = some (strOfNums [n % 256], 0) := by
  obtain ⟨k, rfl⟩ : ∃ m, k = m + 4 := ⟨k - 4, by omega⟩
  have e : n / 256 = 0 := by omega
  unfold P.code_Put.f
  rw [if_neg (by omega), if_neg (by omega), if_neg (by omega)]
  simp [P.code_Put.j0, P.code_Put.l0, wrap64, shr, e, IntKind.bits]
theorem put2 (k : Nat) (hk : 5 ≤ k) {n : Int} (h0 : 0 ≤ n) (h1 : n < 65536) : P.code_Put.f k n 2 = some (strOfNums [n / 256 % 256, n % 256], 0) := by
  obtain ⟨k, rfl⟩ : ∃ m, k = m + 5 := ⟨k - 5, by omega⟩
  have e : n / 65536 = 0 := by omega
  unfold P.code_Put.f
  rw [if_neg (by omega), if_neg (by omega), if_neg (by omega)]
  simp [P.code_Put.j0, P.code_Put.l0, wrap64, shr, e, IntKind.bits, List.replicate]
theorem tq {n d : Int} (h0 : 0 ≤ n) (h1 : n < 281474976710656) (hd : 0 < d) : Int.tmod (wrap64 (Int.tdiv n d)) 256 % 256 = n / d % 256 := by
  have e := Int.ediv_nonneg h0 (Int.le_of_lt hd)
  have e2 := Int.ediv_le_self d h0
  rw [Int.tdiv_eq_ediv_of_nonneg h0, w64_in _ (by omega), Int.tmod_eq_emod_of_nonneg e]
  omega
theorem tq1 {n : Int} (h0 : 0 ≤ n) (h1 : n < 281474976710656) : Int.tmod (wrap64 n) 256 % 256 = n % 256 := by
  rw [w64_in _ (by omega), Int.tmod_eq_emod_of_nonneg h0]
  omega
theorem rput2 (k : Nat) (hk : 14 ≤ k) {n : Int} (h0 : 0 ≤ n) (h1 : n < 65536) : peneloperef01_Put.f k n 2 = some (strOfNums [n / 256 % 256, n % 256], 0) := by
  obtain ⟨k, rfl⟩ : ∃ m, k = m + 14 := ⟨k - 14, by omega⟩
  unfold peneloperef01_Put.f
  rw [if_neg (by omega), if_neg (by omega), if_neg (by omega)]
  simp [peneloperef01_Put.j0, peneloperef01_Put.l0, peneloperef01_power.f, peneloperef01_power.l0, w64_in, show ¬ 65536 ≤ n by omega, tq1 h0 (show n < 281474976710656 by omega), tq h0 (show n < 281474976710656 by omega)]
/-- A byte of a number. -/
def ub (n : Int) : UInt8 := UInt8.ofNat n.toNat
theorem strOf_list (l : List Int) : (strOfNums l).data.toList = l.map ub := rfl
def mkB (l : List UInt8) : ByteArray := ⟨l.toArray⟩
theorem mkB_list (l : List UInt8) : (mkB l).data.toList = l := by simp [mkB]
theorem mkB_of (b : ByteArray) : mkB b.data.toList = b := by cases b; simp [mkB]
theorem mkB_size (l : List UInt8) : (mkB l).size = l.length := by rw [Go.Lib.size_eq, mkB_list]
theorem mkB_app (a b : List UInt8) : mkB a ++ mkB b = mkB (a ++ b) := by
  rw [← mkB_of (mkB a ++ mkB b)]
  congr 1
/-- A number in two bytes, and a text and its length ahead of it. -/
def two (n : Int) : List UInt8 := [ub (n / 256 % 256), ub (n % 256)]
def txt (s : ByteArray) : List UInt8 := two (s.size : Int) ++ s.data.toList
theorem txt_len (s : ByteArray) : (txt s).length = s.size + 2 := by
  unfold txt two
  rw [List.length_append, ← Go.Lib.size_eq]; simp only [List.length_cons, List.length_nil]; omega
theorem all2 (a b : List UInt8) (h : a.length + b.length ≤ 100000) : code_All.f [mkB a, mkB b] = some (mkB (a ++ b)) := by
  have e : catL [mkB a, mkB b] = a ++ b := by simp [catL, mkB]
  unfold code_All.f
  rw [e, if_pos ⟨by rw [List.length_append]; omega, by simp⟩]
  rfl
theorem strTwo (n : Int) : strOfNums [n / 256 % 256, n % 256] = mkB (two n) := rfl
theorem text_p (k : Nat) (hk : 5 ≤ k) (s : ByteArray) (h : s.size ≤ 65535) : P.code_Text.f k s = some (mkB (txt s), 0) := by
  unfold P.code_Text.f
  rw [if_neg (by omega), put2 k hk (by omega) (by omega)]
  simp only [Option.bind_some]
  have e := all2 (two (s.size : Int)) s.data.toList (by rw [← Go.Lib.size_eq]; simp [two]; omega)
  rw [mkB_of] at e
  rw [strTwo, e]
  rfl
theorem textF_p (k : Nat) (hk : 5 ≤ k) (o : List UInt8) (s : ByteArray) (h : s.size ≤ 65535) (ho : o.length ≤ 10000) : textF k (mkB o) s = some (mkB (o ++ txt s)) := by
  unfold textF
  rw [text_p k hk s h, Option.bind_some]
  exact all2 _ _ (by rw [txt_len]; omega)
theorem rtext_p (s : ByteArray) (h : s.size ≤ 65535) : peneloperef07_text.f s = some (mkB (txt s)) := by
  unfold peneloperef07_text.f peneloperef01_Text.f
  rw [if_neg (by omega), Option.bind_some, if_pos (by rw [strOfNums_size]; simp; omega), Option.bind_some]
  simp only [Option.some.injEq]
  rw [strTwo, ← mkB_of s, mkB_app, mkB_of]
  rfl
theorem rtwo_p (k : Nat) (hk : 14 ≤ k) {n : Int} (h0 : 0 ≤ n) (h1 : n < 65536) : peneloperef07_two.f k n = some (mkB (two n)) := by
  unfold peneloperef07_two.f
  rw [rput2 k hk h0 h1]
  rfl
def leafB : List ByteArray → List ByteArray → List UInt8
  | x :: xs, v :: vs => txt x ++ (txt v ++ leafB xs vs)
  | _, _ => []
def kidB : List Int → List ByteArray → List UInt8
  | [], _ => []
  | b :: bs, [] => two b ++ kidB bs []
  | b :: bs, x :: xs => two b ++ (txt x ++ kidB bs xs)
def putB (leaf : Bool) (K V : List ByteArray) (C : List Int) : List UInt8 := ub ((K.length : Int) % 256) :: (if leaf = true then leafB K V else kidB C K)
theorem leaf_p (k : Nat) (hk : 5 ≤ k) : ∀ (K V : List ByteArray) (o : List UInt8), V.length = K.length → (∀ x ∈ K, x.size ≤ 200) → (∀ x ∈ V, x.size ≤ 200) → o.length + 500 * K.length ≤ 9000 → putLeaf k K V (mkB o) = some (mkB (o ++ leafB K V))
  | [], V, o, _, _, _, _ => by cases V <;> simp [putLeaf, leafB]
  | x :: xs, [], o, h, _, _, _ => by simp at h
  | x :: xs, v :: vs, o, h, hK, hV, ho => by
    have h1 := hK x (by simp)
    have h2 := hV v (by simp)
    simp only [List.length_cons] at h ho
    rw [putLeaf, textF_p k hk o x (by omega) (by omega), Option.bind_some, textF_p k hk _ v (by omega) (by rw [List.length_append, txt_len]; omega), Option.bind_some,
      leaf_p k hk xs vs _ (by omega) (fun y hy => hK y (by simp [hy])) (fun y hy => hV y (by simp [hy])) (by rw [List.length_append, List.length_append, txt_len, txt_len]; omega), leafB]
    simp [List.append_assoc]
theorem kid_p (k : Nat) (hk : 5 ≤ k) : ∀ (C : List Int) (K : List ByteArray) (o : List UInt8), (∀ x ∈ C, 0 ≤ x ∧ x < 65536) → (∀ x ∈ K, x.size ≤ 200) → o.length + 300 * C.length ≤ 9000 → putKid k C K (mkB o) = some (mkB (o ++ kidB C K))
  | [], K, o, _, _, _ => by cases K <;> simp [putKid, kidB]
  | b :: bs, [], o, hC, hK, ho => by
    have h1 := hC b (by simp)
    simp only [List.length_cons] at ho
    rw [putKid, put2 k hk h1.1 h1.2, Option.bind_some, strTwo, all2 _ _ (by simp [two]; omega), Option.bind_some,
      kid_p k hk bs [] _ (fun y hy => hC y (by simp [hy])) hK (by rw [List.length_append]; simp [two]; omega), kidB]
    simp [List.append_assoc]
  | b :: bs, x :: xs, o, hC, hK, ho => by
    have h1 := hC b (by simp)
    have h2 := hK x (by simp)
    simp only [List.length_cons] at ho
    rw [putKid, put2 k hk h1.1 h1.2, Option.bind_some, strTwo, all2 _ _ (by simp [two]; omega), Option.bind_some, textF_p k hk _ x (by omega) (by rw [List.length_append]; simp [two]; omega), Option.bind_some,
      kid_p k hk bs xs _ (fun y hy => hC y (by simp [hy])) (fun y hy => hK y (by simp [hy])) (by rw [List.length_append, List.length_append, txt_len]; simp [two]; omega), kidB]
    simp [List.append_assoc]
/-- What a node that may stand is. -/
theorem stands_of {leaf : Bool} {K V : List ByteArray} {C : List Int} (h : standsB leaf K V C = true) :
    K.length ≤ 9 ∧ (∀ i, i < K.length → okAt K i = true) ∧ (∀ x ∈ K, 1 ≤ x.size ∧ x.size ≤ 32) ∧ (leaf = true → C = [] ∧ V.length = K.length ∧ ∀ v ∈ V, v.size ≤ 200) ∧ (leaf = false → V = [] ∧ 1 ≤ K.length ∧ C.length = K.length + 1 ∧ ∀ b ∈ C, 10 ≤ b ∧ b ≤ 2047) := by
  unfold standsB keysB tailB at h
  simp only [Bool.and_eq_true, decide_eq_true_eq, List.all_eq_true] at h
  obtain ⟨h1, h2, h3⟩ := h
  have h2' : ∀ i, i < K.length → okAt K i = true := fun i hi => h2 i (by rw [List.mem_range'_1]; omega)
  refine ⟨h1, h2', fun x hx => ?_, fun hl => ?_, fun hl => ?_⟩
  · obtain ⟨i, hi, rfl⟩ := List.mem_iff_getElem.1 hx
    have := h2' i hi
    unfold okAt at this
    have e : key K i = K[i] := by simp [key, List.getD_eq_getElem?_getD, List.getElem?_eq_getElem hi]
    rw [e] at this
    simp only [Bool.and_eq_true, decide_eq_true_eq] at this
    exact ⟨this.1, this.2.1⟩
  · subst hl
    simp only [if_true, Bool.and_eq_true, decide_eq_true_eq, List.all_eq_true] at h3
    exact ⟨List.eq_nil_of_length_eq_zero h3.1, h3.2.1, h3.2.2⟩
  · subst hl
    simp only [Bool.false_eq_true, if_false, Bool.and_eq_true, decide_eq_true_eq, List.all_eq_true] at h3
    exact ⟨List.eq_nil_of_length_eq_zero h3.1, h3.2.1, h3.2.2.1, h3.2.2.2⟩
theorem put_f (leaf : Bool) (K V : List ByteArray) (C : List Int) (hv : V.length ≤ 1000) (hc : C.length ≤ 1000) (k : Nat) (hk : 12 ≤ k) :
    node_Put.f k leaf K V C = some (if rightB leaf K V C true = true then (mkB (putB leaf K V C), 0) else (⟨#[]⟩, 1)) := by
  unfold node_Put.f
  rw [node_right_p leaf K V C true hv hc k hk, Option.bind_some]
  cases hr : rightB leaf K V C true
  · rfl
  · rw [if_neg (by simp), if_pos rfl]
    have hs : standsB leaf K V C = true := by
      unfold rightB at hr
      simp only [Bool.and_eq_true] at hr
      exact hr.1
    obtain ⟨h1, _, h3, h4, h5⟩ := stands_of hs
    rw [put1 k (by omega) (by omega) (by omega), Option.bind_some]
    cases leaf
    · obtain ⟨rfl, g2, g3, g4⟩ := h5 rfl
      simp only [Bool.false_eq_true, if_false]
      rw [if_pos (by omega)]
      rw [show strOfNums [(K.length : Int) % 256] = mkB [ub ((K.length : Int) % 256)] from rfl, kid_p k (by omega) C K _ (fun x hx => by have := g4 x hx; omega) (fun x hx => by have := h3 x hx; omega) (by simp; omega)]
      simp [putB]
    · obtain ⟨rfl, g2, g3⟩ := h4 rfl
      simp only [if_true]
      rw [if_pos (by omega)]
      rw [show strOfNums [(K.length : Int) % 256] = mkB [ub ((K.length : Int) % 256)] from rfl, leaf_p k (by omega) K V _ g2 (fun x hx => by have := h3 x hx; omega) g3 (by simp; omega)]
      simp [putB]
theorem key_eq {K : List ByteArray} {i : Nat} (h : i < K.length) : key K i = K[i] := by simp [key, List.getD_eq_getElem?_getD, List.getElem?_eq_getElem h]
theorem rd_eq {C : List Int} {i : Nat} (h : i < C.length) : rd C (i : Int) = C[i] := by simp [rd, List.getD_eq_getElem?_getD, List.getElem?_eq_getElem h]
theorem ref_leaf_l (K V : List ByteArray) (C : List Int) (hl : K.length ≤ 9) (hv : V.length = K.length) (hK : ∀ x ∈ K, x.size ≤ 200) (hV : ∀ x ∈ V, x.size ≤ 200) : ∀ m i k : Nat, i + m = K.length → m + 20 ≤ k → ∀ o : List UInt8, o.length ≤ 500 * (i + 1) →
    peneloperef07_Put.l0 k (mkB o) K (K.length : Int) i true K V C = some (mkB (o ++ leafB (K.drop i) (V.drop i))) := by
  intro m
  induction m with
  | zero =>
    intro i k hi hk o ho
    obtain ⟨k, rfl⟩ : ∃ q, k = q + 1 := ⟨k - 1, by omega⟩
    rw [peneloperef07_Put.l0, if_neg (by omega), if_pos rfl, List.drop_eq_nil_of_le (by omega), leafB]
    · simp
    · intros; simp_all
  | succ m ih =>
    intro i k hi hk o ho
    obtain ⟨k, rfl⟩ : ∃ q, k = q + 1 := ⟨k - 1, by omega⟩
    have e1 := hK K[i] (List.getElem_mem (by omega))
    have e2 := hV V[i] (List.getElem_mem (by omega))
    rw [peneloperef07_Put.l0, if_pos (by omega), if_pos (by omega), if_pos (by omega), if_pos rfl, rdOf_nat, key_eq (by omega), rtext_p _ (by omega), Option.bind_some, if_pos (by rw [mkB_size, mkB_size, txt_len]; omega), if_pos (by omega),
      rdOf_nat, key_eq (by omega), rtext_p _ (by omega), Option.bind_some, mkB_app, if_pos (by rw [mkB_size, mkB_size, txt_len, List.length_append, txt_len]; omega), mkB_app, show wrap64 ((i : Int) + 1) = ((i + 1 : Nat) : Int) by rw [w64_in _ (by omega)]; omega,
      ih (i + 1) k (by omega) (by omega) _ (by rw [List.length_append, List.length_append, txt_len, txt_len]; omega), List.drop_eq_getElem_cons (show i < K.length by omega), List.drop_eq_getElem_cons (show i < V.length by omega), leafB]
    simp [List.append_assoc]
theorem ref_kid_l (K V : List ByteArray) (C : List Int) (hl : K.length ≤ 9) (hc : C.length = K.length + 1) (hK : ∀ x ∈ K, x.size ≤ 200) (hC : ∀ x ∈ C, 0 ≤ x ∧ x < 65536) : ∀ m i k : Nat, i + m = K.length → m + 20 ≤ k → ∀ o : List UInt8, o.length ≤ 500 * (i + 1) →
    peneloperef07_Put.l0 k (mkB o) K (K.length : Int) i false K V C = some (mkB (o ++ kidB (C.drop i) (K.drop i))) := by
  intro m
  induction m with
  | zero =>
    intro i k hi hk o ho
    obtain ⟨k, rfl⟩ : ∃ q, k = q + 1 := ⟨k - 1, by omega⟩
    obtain rfl : i = K.length := by omega
    have e1 := hC C[K.length] (List.getElem_mem (by omega))
    rw [peneloperef07_Put.l0, if_neg (by omega), if_neg (by simp), if_pos (by omega), if_pos (by omega), rd_eq (by omega), rtwo_p k (by omega) e1.1 e1.2, Option.bind_some, if_pos (by rw [mkB_size, mkB_size]; simp [two]; omega), mkB_app,
      List.drop_eq_nil_of_le (Nat.le_refl _), List.drop_eq_getElem_cons (show K.length < C.length by omega), kidB, List.drop_eq_nil_of_le (by omega), kidB]
    simp
  | succ m ih =>
    intro i k hi hk o ho
    obtain ⟨k, rfl⟩ : ∃ q, k = q + 1 := ⟨k - 1, by omega⟩
    have e1 := hK K[i] (List.getElem_mem (by omega))
    have e2 := hC C[i] (List.getElem_mem (by omega))
    rw [peneloperef07_Put.l0, if_pos (by omega), if_pos (by omega), if_pos (by omega), if_neg (by simp), if_pos (by omega), rd_eq (by omega), rtwo_p k (by omega) e2.1 e2.2, Option.bind_some, if_pos (by rw [mkB_size, mkB_size]; simp [two]; omega), rdOf_nat, key_eq (by omega), rtext_p _ (by omega), Option.bind_some, mkB_app, if_pos (by rw [mkB_size, mkB_size, txt_len, List.length_append]; simp [two]; omega), mkB_app, show wrap64 ((i : Int) + 1) = ((i + 1 : Nat) : Int) by rw [w64_in _ (by omega)]; omega,
      ih (i + 1) k (by omega) (by omega) _ (by rw [List.length_append, List.length_append, txt_len]; simp [two]; omega), List.drop_eq_getElem_cons (show i < K.length by omega), List.drop_eq_getElem_cons (show i < C.length by omega), kidB]
    simp [List.append_assoc]
theorem ref_put_f (leaf : Bool) (K V : List ByteArray) (C : List Int) (h : standsB leaf K V C = true) (k : Nat) (hk : 40 ≤ k) : peneloperef07_Put.f k leaf K V C = some (mkB (putB leaf K V C)) := by
  obtain ⟨h1, _, h3, h4, h5⟩ := stands_of h
  unfold peneloperef07_Put.f
  rw [show strOfNums [(K.length : Int) % 256] = mkB [ub ((K.length : Int) % 256)] from rfl, show (0 : Int) = ((0 : Nat) : Int) from rfl]
  cases leaf
  · obtain ⟨rfl, g2, g3, g4⟩ := h5 rfl
    rw [ref_kid_l K [] C h1 g3 (fun x hx => by have := h3 x hx; omega) (fun x hx => by have := g4 x hx; omega) K.length 0 k (by omega) (by omega) _ (by simp)]
    simp [putB]
  · obtain ⟨rfl, g2, g3⟩ := h4 rfl
    rw [ref_leaf_l K V [] h1 g2 (fun x hx => by have := h3 x hx; omega) g3 K.length 0 k (by omega) (by omega) _ (by simp)]
    simp [putB]
theorem alive_f (k : Nat) (hk : 12 ≤ k) : penelopelaw07_alive.f k = some true := by
  unfold penelopelaw07_alive.f
  have e : rightB true [] [] [] true = true := by simp [rightB, standsB, keysB, tailB]
  rw [put_f true [] [] [] (by simp) (by simp) k hk, Option.bind_some, e, if_pos rfl]
  simp only [if_true, Go.Lib.toList_data, mkB_list]
  rfl
end Go.Proofs.Ytmnkabdaapiikaa.Pure
