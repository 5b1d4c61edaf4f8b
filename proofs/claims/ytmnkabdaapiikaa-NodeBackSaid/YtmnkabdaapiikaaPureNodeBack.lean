/- The pure statement of NodeBack: what is put is got again; what is got of any bytes, put, is the bytes. -/
import Derived.Test.YtmnkabdaapiikaaSayNodeBack
import Derived.Test.YtmnkabdaapiikaaReads
namespace Go.Proofs.Ytmnkabdaapiikaa.Pure
open Go.RowKit Go.Proofs.Ytmnkabdaapiikaa.R Go.Proofs.YtmnkabdaapiikaaW.PrintWords Go.Proofs.YtmnkabdaapiikaaW.PrintLast
set_option linter.unusedVariables false

theorem leaf_err (a : ByteArray) : ∀ c m e, m ≤ a.size → leafS a c m = .error e → e ≠ 0 := by
  intro c
  induction c with
  | zero => intro m e _ h; simp [leafS] at h
  | succ c ih =>
    intro m e hm h
    rw [leafS] at h
    rcases cut_cases a m hm with g1 | ⟨t, ht, gp, g1, _⟩
    · rw [g1, if_neg (by simp)] at h; simp only [Except.error.injEq] at h; omega
    · rw [g1, if_pos rfl] at h
      simp only [Int.toNat_natCast] at h
      rcases cut_cases a _ gp with g2 | ⟨u, hu, gq, g2, _⟩
      · rw [g2, if_neg (by simp)] at h; simp only [Except.error.injEq] at h; omega
      · rw [g2, if_pos rfl] at h
        simp only [Int.toNat_natCast] at h
        split at h
        · cases h
        · rename_i e' he'; simp only [Except.error.injEq] at h; subst h; exact ih _ _ gq he'
theorem kid_err (a : ByteArray) : ∀ c m e, m ≤ a.size → kidS a c m = .error e → e ≠ 0 := by
  intro c
  induction c with
  | zero => intro m e _ h; simp [kidS] at h
  | succ c ih =>
    intro m e hm h
    rw [kidS] at h
    rcases gv_cases a m 2 with g1 | ⟨gp, g1⟩
    · rw [g1, if_neg (by simp)] at h; simp only [Except.error.injEq] at h; omega
    · rw [g1, if_pos rfl] at h
      rcases cut_cases a _ gp with g2 | ⟨u, hu, gq, g2, _⟩
      · rw [g2, if_neg (by simp)] at h; simp only [Except.error.injEq] at h; omega
      · rw [g2, if_pos rfl] at h
        simp only [Int.toNat_natCast] at h
        split at h
        · cases h
        · rename_i e' he'; simp only [Except.error.injEq] at h; subst h; exact ih _ _ gq he'
theorem ub_of (c : UInt8) (n : Int) (h : n = c.toNat) : ub n = c := by
  subst h
  unfold ub
  rw [Int.toNat_natCast]
  exact UInt8.ofNat_toNat
theorem num_fwd (a : ByteArray) (m : Nat) (h : m + 2 ≤ a.size) : a.data.toList.drop m = two (fld a m 2) ++ a.data.toList.drop (m + 2) := by
  have hl : m + 1 < a.data.toList.length := by rw [← Go.Lib.size_eq]; omega
  have e1 : a.data.toList.drop m = a.data.toList[m] :: a.data.toList[m + 1] :: a.data.toList.drop (m + 2) := by
    rw [List.drop_eq_getElem_cons (by omega), List.drop_eq_getElem_cons hl]
  have e2 : fld a m 2 = (a.data.toList[m]).toNat * 256 + (a.data.toList[m + 1]).toNat := by
    unfold fld
    rw [e1]
    simp [numOf]
  have c1 := (a.data.toList[m]).toNat_lt
  have c2 := (a.data.toList[m + 1]).toNat_lt
  rw [e1]
  unfold two
  rw [ub_of a.data.toList[m] _ (by omega), ub_of a.data.toList[m + 1] _ (by omega)]
  rfl
theorem leaf_fwd (a : ByteArray) : ∀ c m r, m ≤ a.size → leafS a c m = .ok r → r.1 ≤ a.size ∧ a.data.toList.drop m = leafB r.2.1 r.2.2 ++ a.data.toList.drop r.1 := by
  intro c
  induction c with
  | zero => intro m r hm h; simp only [leafS, Except.ok.injEq] at h; subst h; exact ⟨hm, by simp [leafB]⟩
  | succ c ih =>
    intro m r hm h
    rw [leafS] at h
    rcases cut_cases a m hm with g1 | ⟨t, ht, gp, g1, g2⟩
    · rw [g1, if_neg (by simp)] at h; cases h
    · rw [g1, if_pos rfl] at h
      simp only [Int.toNat_natCast] at h
      rcases cut_cases a _ gp with g3 | ⟨u, hu, gq, g3, g4⟩
      · rw [g3, if_neg (by simp)] at h; cases h
      · rw [g3, if_pos rfl] at h
        simp only [Int.toNat_natCast] at h
        split at h
        · rename_i r' hr
          simp only [Except.ok.injEq] at h
          obtain ⟨q1, q2⟩ := ih _ r' gq hr
          subst h
          refine ⟨q1, ?_⟩
          rw [g2, g4, q2, leafB]
          simp [List.append_assoc]
        · cases h
def kidE : List Int → List ByteArray → List UInt8
  | b :: bs, x :: xs => two b ++ (txt x ++ kidE bs xs)
  | _, _ => []
theorem kid_end : ∀ (C : List Int) (K : List ByteArray) (b : Int), C.length = K.length → kidB (C ++ [b]) K = kidE C K ++ two b
  | [], [], b, _ => by simp [kidB, kidE]
  | [], _ :: _, b, h => by simp at h
  | _ :: _, [], b, h => by simp at h
  | c :: C, x :: K, b, h => by
    simp only [List.length_cons] at h
    rw [List.cons_append, kidB, kid_end C K b (by omega), kidE]
    simp [List.append_assoc]
theorem kid_fwd (a : ByteArray) : ∀ c m r, m ≤ a.size → kidS a c m = .ok r → r.1 ≤ a.size ∧ a.data.toList.drop m = kidE r.2.2 r.2.1 ++ a.data.toList.drop r.1 := by
  intro c
  induction c with
  | zero => intro m r hm h; simp only [kidS, Except.ok.injEq] at h; subst h; exact ⟨hm, by simp [kidE]⟩
  | succ c ih =>
    intro m r hm h
    rw [kidS] at h
    rcases gv_cases a m 2 with g1 | ⟨gp, g1⟩
    · rw [g1, if_neg (by simp)] at h; cases h
    · rw [g1, if_pos rfl] at h
      rcases cut_cases a _ gp with g3 | ⟨u, hu, gq, g3, g4⟩
      · rw [g3, if_neg (by simp)] at h; cases h
      · rw [g3, if_pos rfl] at h
        simp only [Int.toNat_natCast] at h
        split at h
        · rename_i r' hr
          simp only [Except.ok.injEq] at h
          obtain ⟨q1, q2⟩ := ih _ r' gq hr
          subst h
          refine ⟨q1, ?_⟩
          rw [num_fwd a m gp, g4, q2, kidE]
          simp [List.append_assoc]
        · cases h
theorem first_fwd (a : ByteArray) (n : Nat) (h : 0 + 1 ≤ a.size) (hf : fld a 0 1 = n) : a.data.toList = ub ((n : Int) % 256) :: a.data.toList.drop 1 := by
  have hl : 0 < a.data.toList.length := by rw [← Go.Lib.size_eq]; omega
  have e1 : a.data.toList = a.data.toList[0] :: a.data.toList.drop 1 := by
    have := List.drop_eq_getElem_cons hl
    rwa [List.drop_zero] at this
  have c1 := (a.data.toList[0]).toNat_lt
  have e2 : fld a 0 1 = (a.data.toList[0]).toNat := by
    unfold fld
    rw [List.drop_zero]
    conv => lhs; rw [e1]
    simp [numOf]
  rw [ub_of a.data.toList[0] _ (by omega)]
  exact e1
theorem drop_all (a : ByteArray) : a.data.toList.drop a.size = [] := List.drop_eq_nil_of_le (by rw [← Go.Lib.size_eq]; omega)
/-- What is got of any bytes, put, is the bytes. -/
theorem read_back {kind : Int} {a : ByteArray} {leaf : Bool} {K V : List ByteArray} {C : List Int} (h : readV kind a = (leaf, K, V, C, 0)) : putB leaf K V C = a.data.toList := by
  have hend : ∀ lf p K' V' C', endV lf a p K' V' C' = (leaf, K, V, C, 0) → p = a.size ∧ lf = leaf ∧ K' = K ∧ V' = V ∧ C' = C := by
    intro lf p K' V' C' h
    unfold endV at h
    split at h
    · split at h
      · rename_i hp _
        simp only [Prod.mk.injEq] at h
        obtain ⟨q1, q2, q3, q4, _⟩ := h
        exact ⟨hp, q1, q2, q3, q4⟩
      · simp at h
    · simp at h
  unfold readV at h
  by_cases h1 : kind = 1
  · rw [if_pos h1] at h
    rcases gv_cases a 0 1 with h2 | ⟨hp, h2⟩
    · rw [h2, if_neg (by simp)] at h; simp at h
    · obtain ⟨n, hf, hn2⟩ := first_bd a hp
      rw [h2, if_pos rfl, hf, Int.toNat_natCast] at h
      cases hl : leafS a n 1 with
      | error e => rw [hl] at h; simp only [Prod.mk.injEq] at h; exact absurd h.2.2.2.2 (leaf_err a n 1 e hp hl)
      | ok r =>
        rw [hl] at h
        obtain ⟨q0, rfl, rfl, rfl, rfl⟩ := hend _ _ _ _ _ h
        obtain ⟨g1, g2⟩ := leaf_fwd a n 1 r hp hl
        have g3 := leaf_len a n 1 r hl
        rw [first_fwd a n hp hf, g2, q0, drop_all, List.append_nil]
        unfold putB
        rw [g3.1]
        simp
  rw [if_neg h1] at h
  by_cases h3 : kind = 2
  · rw [if_pos h3] at h
    rcases gv_cases a 0 1 with h2 | ⟨hp, h2⟩
    · rw [h2, if_neg (by simp)] at h; simp at h
    · obtain ⟨n, hf, hn2⟩ := first_bd a hp
      rw [h2, if_pos rfl, hf, Int.toNat_natCast] at h
      cases hl : kidS a n 1 with
      | error e => rw [hl] at h; simp only [Prod.mk.injEq] at h; exact absurd h.2.2.2.2 (kid_err a n 1 e hp hl)
      | ok r =>
        rw [hl] at h
        simp only at h
        unfold kidV at h
        rcases gv_cases a r.1 2 with g1 | ⟨gp, g1⟩
        · rw [g1, if_neg (by simp)] at h; simp at h
        · rw [g1, if_pos rfl] at h
          obtain ⟨q0, rfl, rfl, rfl, rfl⟩ := hend _ _ _ _ _ h
          obtain ⟨g2, g3⟩ := kid_fwd a n 1 r hp hl
          have g4 := kid_len a n 1 r hl
          rw [first_fwd a n hp hf, g3, num_fwd a r.1 gp, q0, drop_all, List.append_nil]
          unfold putB
          rw [g4.1, if_neg (by simp), kid_end _ _ _ (by omega)]
  · rw [if_neg h3] at h; simp at h
theorem leaf_back (a : ByteArray) : ∀ (K V : List ByteArray) (m : Nat) (rest : List UInt8), V.length = K.length → (∀ x ∈ K, x.size ≤ 65535) → (∀ x ∈ V, x.size ≤ 65535) → a.data.toList.drop m = leafB K V ++ rest → leafS a K.length m = .ok (m + (leafB K V).length, K, V)
  | [], V, m, rest, hv, _, _, h => by
    obtain rfl := List.eq_nil_of_length_eq_zero hv
    simp [leafS, leafB]
  | x :: K, [], m, rest, hv, _, _, h => by simp at hv
  | x :: K, v :: V, m, rest, hv, hK, hV, h => by
    simp only [List.length_cons] at hv
    rw [leafB, List.append_assoc, List.append_assoc] at h
    obtain ⟨p1, p2, p3⟩ := cut_back a x m _ (hK x (by simp)) h
    obtain ⟨q1, q2, q3⟩ := cut_back a v _ _ (hV v (by simp)) p3
    rw [List.length_cons, leafS, p2]
    simp only [if_true, Int.toNat_natCast]
    rw [q2]
    simp only [if_true, Int.toNat_natCast]
    rw [leaf_back a K V _ rest (by omega) (fun y hy => hK y (by simp [hy])) (fun y hy => hV y (by simp [hy])) q3, leafB]
    simp only [List.length_append, txt_len, Except.ok.injEq, Prod.mk.injEq, and_true]
    omega
theorem kid_back (a : ByteArray) : ∀ (C : List Int) (K : List ByteArray) (m : Nat) (rest : List UInt8), C.length = K.length → (∀ x ∈ K, x.size ≤ 65535) → (∀ b ∈ C, 0 ≤ b ∧ b < 65536) → a.data.toList.drop m = kidE C K ++ rest → kidS a K.length m = .ok (m + (kidE C K).length, K, C) ∧ a.data.toList.drop (m + (kidE C K).length) = rest
  | [], [], m, rest, _, _, _, h => by simp [kidS, kidE] at h ⊢; exact h
  | [], _ :: _, m, rest, hl, _, _, h => by simp at hl
  | _ :: _, [], m, rest, hl, _, _, h => by simp at hl
  | b :: C, x :: K, m, rest, hl, hK, hC, h => by
    simp only [List.length_cons] at hl
    rw [kidE, List.append_assoc, List.append_assoc] at h
    have hb := hC b (by simp)
    obtain ⟨p1, p2⟩ := num_back a m b _ hb.1 hb.2 h
    have p3 : a.data.toList.drop (m + 2) = txt x ++ (kidE C K ++ rest) := by
      rw [← List.drop_drop, h]; simp [two]
    obtain ⟨q1, q2, q3⟩ := cut_back a x _ _ (hK x (by simp)) p3
    obtain ⟨i1, i2⟩ := kid_back a C K _ rest (by omega) (fun y hy => hK y (by simp [hy])) (fun y hy => hC y (by simp [hy])) q3
    have g : gv a m 2 = (b, ((m + 2 : Nat) : Int), 0) := by unfold gv; rw [if_neg (by omega), p2]
    have hlen : (kidE (b :: C) (x :: K)).length = 2 + (x.size + 2) + (kidE C K).length := by
      rw [kidE, List.length_append, List.length_append, txt_len]; simp [two]; omega
    rw [List.length_cons, kidS, g]
    simp only [if_true]
    rw [q2]
    simp only [if_true, Int.toNat_natCast]
    rw [i1, hlen, p2]
    refine ⟨?_, ?_⟩
    · simp only [Except.ok.injEq, Prod.mk.injEq, and_true]; omega
    · rw [show m + (2 + (x.size + 2) + (kidE C K).length) = m + 2 + 2 + x.size + (kidE C K).length by omega]; exact i2
theorem leafB_len : ∀ (K V : List ByteArray), (∀ x ∈ K, x.size ≤ 32) → (∀ x ∈ V, x.size ≤ 200) → (leafB K V).length ≤ 236 * K.length
  | [], V, _, _ => by simp [leafB]
  | x :: K, [], _, _ => by simp [leafB]
  | x :: K, v :: V, hK, hV => by
    have h1 := hK x (by simp)
    have h2 := hV v (by simp)
    have := leafB_len K V (fun y hy => hK y (by simp [hy])) (fun y hy => hV y (by simp [hy]))
    rw [leafB, List.length_append, List.length_append, txt_len, txt_len, List.length_cons]
    omega
theorem kidE_len : ∀ (C : List Int) (K : List ByteArray), (∀ x ∈ K, x.size ≤ 32) → (kidE C K).length ≤ 36 * K.length
  | [], _, _ => by simp [kidE]
  | _ :: _, [], _ => by simp [kidE]
  | b :: C, x :: K, hK => by
    have h1 := hK x (by simp)
    have := kidE_len C K (fun y hy => hK y (by simp [hy]))
    rw [kidE, List.length_append, List.length_append, txt_len, List.length_cons]
    simp only [two, List.length_cons, List.length_nil]
    omega
theorem first_back (n : Nat) (l : List UInt8) (hn : n ≤ 255) : gv (mkB (ub ((n : Int) % 256) :: l)) 0 1 = ((n : Int), 1, 0) ∧ fld (mkB (ub ((n : Int) % 256) :: l)) 0 1 = n := by
  have hf : fld (mkB (ub ((n : Int) % 256) :: l)) 0 1 = n := by
    have e := ub_nat (n := (n : Int) % 256) (by omega) (by omega)
    unfold fld
    rw [mkB_list]
    simp [numOf]
    omega
  refine ⟨?_, hf⟩
  unfold gv
  rw [hf, if_neg (by rw [mkB_size]; simp)]
  rfl
/-- What is put is got again. -/
theorem put_read {leaf : Bool} {K V : List ByteArray} {C : List Int} (h : rightB leaf K V C true = true) : readV (if leaf = true then 1 else 2) (mkB (putB leaf K V C)) = (leaf, K, V, C, 0) ∧ (putB leaf K V C).length ≤ 4000 := by
  have hr := h
  unfold rightB at hr
  simp only [Bool.and_eq_true, decide_eq_true_eq] at hr
  obtain ⟨hs, h8, _⟩ := hr
  obtain ⟨h9, _, h3, h4, h5⟩ := stands_of hs
  have hK : ∀ x ∈ K, x.size ≤ 32 := fun x hx => (h3 x hx).2
  cases leaf
  · obtain ⟨rfl, g2, g3, g4⟩ := h5 rfl
    obtain ⟨C', b, rfl⟩ : ∃ C' b, C = C' ++ [b] := ⟨C.dropLast, C.getLast (by intro e; simp [e] at g3), (List.dropLast_concat_getLast _).symm⟩
    have hl : C'.length = K.length := by rw [List.length_append] at g3; simp at g3; omega
    have hb := g4 b (by simp)
    have e : putB false K [] (C' ++ [b]) = ub ((K.length : Int) % 256) :: (kidE C' K ++ two b) := by
      unfold putB
      rw [if_neg (by simp), kid_end C' K b hl]
    have hlen : (putB false K [] (C' ++ [b])).length = 1 + (kidE C' K).length + 2 := by rw [e]; simp [two]; omega
    have hk := kidE_len C' K hK
    refine ⟨?_, by omega⟩
    have hf := first_back K.length (kidE C' K ++ two b) (by omega)
    rw [e]
    have hd : (mkB (ub ((K.length : Int) % 256) :: (kidE C' K ++ two b))).data.toList.drop 1 = kidE C' K ++ two b := by rw [mkB_list]; rfl
    obtain ⟨i1, i2⟩ := kid_back _ C' K 1 (two b) hl (fun x hx => by have := hK x hx; omega) (fun x hx => by have := g4 x (by simp [hx]); omega) hd
    have hn := num_back _ _ b [] (by omega) (by omega) (by rw [i2, List.append_nil])
    have hsz : (mkB (ub ((K.length : Int) % 256) :: (kidE C' K ++ two b))).size = 1 + (kidE C' K).length + 2 := by rw [mkB_size]; simp [two]; omega
    rw [show (if (false : Bool) = true then (1 : Int) else 2) = 2 from rfl]
    unfold readV
    rw [if_neg (by omega), if_pos rfl, hf.1, if_pos rfl, hf.2, Int.toNat_natCast, i1]
    simp only
    have hg : gv (mkB (ub ((K.length : Int) % 256) :: (kidE C' K ++ two b))) (1 + (kidE C' K).length) 2 = (b, ((1 + (kidE C' K).length + 2 : Nat) : Int), 0) := by unfold gv; rw [if_neg (by omega), hn.2]
    unfold kidV
    rw [hg, if_pos rfl, hn.2]
    unfold endV
    rw [if_pos (by omega), h]
    rfl
  · obtain ⟨rfl, g2, g3⟩ := h4 rfl
    have e : putB true K V [] = ub ((K.length : Int) % 256) :: leafB K V := by simp [putB]
    have hk := leafB_len K V hK g3
    refine ⟨?_, by rw [e, List.length_cons]; omega⟩
    have hf := first_back K.length (leafB K V) (by omega)
    rw [e]
    have hd : (mkB (ub ((K.length : Int) % 256) :: leafB K V)).data.toList.drop 1 = leafB K V ++ [] := by rw [mkB_list, List.append_nil]; rfl
    have i1 := leaf_back _ K V 1 [] g2 (fun x hx => by have := hK x hx; omega) (fun x hx => by have := g3 x hx; omega) hd
    rw [show (if (true : Bool) = true then (1 : Int) else 2) = 1 from rfl]
    unfold readV
    rw [if_pos rfl, hf.1, if_pos rfl, hf.2, Int.toNat_natCast, i1]
    simp only
    unfold endV
    rw [if_pos (by rw [mkB_size, List.length_cons]; omega), h]
    rfl
theorem back_j1 (k : Nat) (hk : 4001 ≤ k) (kind : Int) (a : ByteArray) (hs : a.size ≤ 5000) : penelopelaw07_NodeBack.j1 k kind a = some true := by
  obtain ⟨k, rfl⟩ : ∃ q, k = q + 1 := ⟨k - 1, by omega⟩
  rw [penelopelaw07_NodeBack.j1, node_get_f k (by omega) kind a hs, Option.bind_some, alive_f k (by omega)]
  rcases read_cases kind a with ⟨e, he, h⟩ | ⟨leaf, K, V, C, h, hr, g1, g2, g3⟩
  · rw [h, if_neg he, Option.bind_some, if_pos rfl, like_self k (by omega) false [] [] [] (by simp) (by simp) (by simp)]; rfl
  · rw [h, if_pos rfl]
    simp only
    rw [put_f leaf K V C (by omega) (by omega) k (by omega), hr, if_pos rfl, Option.bind_some, Option.bind_some, if_pos rfl, if_pos rfl, if_pos (by rw [Go.Lib.toList_data, mkB_list, read_back h, Go.Lib.toList_data]),
      node_right_f leaf K V C true (by omega) (by omega) k (by omega), hr]
    rfl
theorem NodeBack : penelopelaw07_NodeBack.Pure := by
  intro x0 kind a _ _ _
  obtain ⟨leaf, K, V, C⟩ := x0
  simp only
  refine ⟨4100, ?_⟩
  unfold penelopelaw07_NodeBack.f
  obtain ⟨h1, h2, h3⟩ := cut5000 a
  rw [few_f leaf K V C, Option.bind_some, if_pos h1, if_pos h2]
  generalize a.extract 0 (mn (a.size : Int) 5000).toNat = a at *
  simp only
  have e1 : (V.take 30).length ≤ 30 := by rw [List.length_take]; omega
  have e2 : (C.take 30).length ≤ 30 := by rw [List.length_take]; omega
  have e3 : (K.take 30).length ≤ 30 := by rw [List.length_take]; omega
  generalize K.take 30 = K at *
  generalize V.take 30 = V at *
  generalize C.take 30 = C at *
  rw [put_f leaf K V C (by omega) (by omega) 4100 (by omega), Option.bind_some]
  cases hr : rightB leaf K V C true
  · rw [if_neg (by simp)]
    exact back_j1 4100 (by omega) kind a h3
  · rw [if_pos rfl, if_pos rfl]
    obtain ⟨p1, p2⟩ := put_read hr
    have key : penelopelaw07_NodeBack.j0 4100 kind a (mkB (putB leaf K V C)) (if leaf = true then 1 else 2) leaf K V C = some true := by
      rw [penelopelaw07_NodeBack.j0, node_get_f 4099 (by omega) _ _ (by rw [mkB_size]; omega), Option.bind_some, p1, if_pos rfl, like_self 4099 (by omega) leaf K V C (by omega) (by omega) (by omega), Option.bind_some, if_pos rfl, if_neg (by rw [mkB_size]; omega)]
      exact back_j1 4099 (by omega) kind a h3
    cases leaf
    · simpa using key
    · simpa using key
end Go.Proofs.Ytmnkabdaapiikaa.Pure
