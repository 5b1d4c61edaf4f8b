/- Where a text stands in a row of texts (sort.SearchStrings): what the machine's call comes to, as a plain function. -/
import Derived.Test.YtmnkabdaapiikaaXLeq
import Derived.Test.YtmnkabdaapiikaaProg
import Derived.WalkKit
import Derived.LoopTactic
import Derived.Below
import Derived.BigQuiet
import Derived.WalkLawsBesides
import Derived.WalkSpells
import Derived.Outline
import Derived.Test.YtmnkabdaapiikaaWWords
namespace Go.Proofs.Ytmnkabdaapiikaa
open Go.RowKit Go.Proofs.YtmnkabdaapiikaaW.PrintWords
set_option linter.unusedVariables false

/-- The binary search, with so many rounds at most. -/
def bs (l : List ByteArray) (x : ByteArray) : Nat → Nat → Nat → Option Nat
  | 0, _, _ => none
  | k + 1, i, j => if i < j then (if Op.bytesLess (rdOf ByteArray.empty l (((i + j) / 2 : Nat) : Int)).toList x.toList = true then bs l x k ((i + j) / 2 + 1) j else bs l x k i ((i + j) / 2)) else some i
def sort_SearchStrings.f (k : Nat) (l0 : List ByteArray) (a1 : ByteArray) : Option Int := if l0.length ≤ 1000000 then (bs l0 a1 k 0 l0.length).map Int.ofNat else none
theorem bs_mono (l : List ByteArray) (x : ByteArray) : ∀ k i j, LeO (bs l x k i j) (bs l x (k + 1) i j)
  | 0, _, _ => LeO.none _
  | k + 1, i, j => by
    rw [bs, bs]
    exact LeO.ite (LeO.ite (bs_mono l x k _ _) (bs_mono l x k _ _)) (LeO.refl _)
set_option maxHeartbeats 1000000 in
/-- The test that the search is handed. -/
theorem search_test (g2 g3 : Nat) (A0 : Option Addr) (c0 : Nat) (l0 : List ByteArray) (x : ByteArray) (i : Nat) (hi : i < l0.length) (w0 : World) (hr0 : Kd.C Kd.string w0 A0 l0.length l0)
    (h2 : w0.heap[g2]? = some (.cells #[.slice A0 l0.length c0] 22 (0, 0))) (h3 : w0.heap[g3]? = some (.cells #[.string x] 9 (0, 0))) (w : World) (hb : Below w0.heap.size w0 w) :
    Calls Try.prog 51 #[.int .i64 i, .pointer (some ⟨g2, 0, none⟩), .pointer (some ⟨g3, 0, none⟩)] w fun e w' => e = .returned (.bool (!(Op.bytesLess (rdOf ByteArray.empty l0 (i : Int)).toList x.toList))) ∧ Below w.heap.size w w' := by
  obtain ⟨ad, rfl, hc⟩ := Kd.at_string (Kd.C_below hr0 hb) (i : Int) (by omega) (by omega)
  rw [Int.toNat_natCast] at hc
  have c2 : w.cell? ⟨g2, 0, none⟩ = some (.slice (some ad) l0.length c0) := (blk_cell (blk_below h2 hb) 0).trans rfl
  have c3 : w.cell? ⟨g3, 0, none⟩ = some (.string x) := (blk_cell (blk_below h3 hb) 0).trans rfl
  have hB := Aside0.mk (Below.refl w.heap.size w)
  have p1 : (0 : Int) ≤ (i : Int) := by omega
  have p2 : (i : Int) < (l0.length : Int) := by omega
  clear h2 h3 hb hr0 hi
  generalize rdOf ByteArray.empty l0 (i : Int) = y at hc ⊢
  generalize l0.length = n at c2 p2
  go_enter Try.func51, Try.ntmps51
  go_wp2_with fail
  go_quiet (fail)
  go_wp2
  go_ret
  exact ⟨rfl, by repeat (first | (with_reducible first | exact hB.out | apply below_alloc | apply pw_below_drewN | apply below_drew1) | exact hB.out)⟩
set_option maxHeartbeats 2000000 in
theorem search_calls (g2 g3 : Nat) (A0 : Option Addr) (c0 : Nat) (l0 : List ByteArray) (x : ByteArray) (hl : l0.length ≤ 1000000) (K : Nat) (r : Nat) (h : bs l0 x K 0 l0.length = some r) (w0 : World) (hr0 : Kd.C Kd.string w0 A0 l0.length l0)
    (h2 : w0.heap[g2]? = some (.cells #[.slice A0 l0.length c0] 22 (0, 0))) (h3 : w0.heap[g3]? = some (.cells #[.string x] 9 (0, 0))) (w : World) (hb : Below w0.heap.size w0 w) :
    Calls Try.prog 50 #[.int .i64 l0.length, .func (.func 51) #[] #[.pointer (some ⟨g2, 0, none⟩), .pointer (some ⟨g3, 0, none⟩)]] w fun e w' => e = .returned (.int .i64 r) ∧ Below w.heap.size w w' := by
  have KT := Aside0.mk (fun (i : Nat) (hi : i < l0.length) (W : World) (hB : Below w0.heap.size w0 W) => search_test g2 g3 A0 c0 l0 x i hi w0 hr0 h2 h3 W hB)
  have HB0 := Aside0.mk hb
  have HH := Aside0.mk h
  have HL := Aside0.mk hl
  clear h2 h3 hr0 hb h hl
  obtain ⟨n, hn⟩ : ∃ n : Nat, n = l0.length := ⟨_, rfl⟩
  rw [← hn] at KT HH HL ⊢
  clear hn
  go_enter Try.func50, Try.ntmps50
  go_wp2
  go_loopw [5, 6] (fun i j wr => ∃ k a b : Nat, b ≤ n ∧ i = .int .i64 a ∧ j = .int .i64 b ∧ Aside0 (bs l0 x k a b = some r) ∧ Aside0 (Below w.heap.size w wr)) (fun i j _ => ((intOf j) - (intOf i)).toNat)
  case atStart => exact ⟨K, 0, n, Nat.le_refl _, rfl, rfl, HH, ⟨Below.refl _ _⟩⟩
  case round =>
    obtain ⟨k, a, b, hbn, rfl, rfl, HS, HB⟩ := hrel
    have hbig := HL.out
    by_cases hlt : a < b
    · have hs := HS.out
      cases k with
      | zero => simp [bs] at hs
      | succ k =>
        rw [bs, if_pos hlt] at hs
        obtain ⟨m, hm⟩ : ∃ m : Nat, ((a : Int) + (b : Int)) / 2 = m := ⟨(a + b) / 2, by omega⟩
        have hm' : (a + b) / 2 = m := by omega
        rw [hm'] at hs
        have hma : Aside0 (a ≤ m ∧ m < b) := ⟨by omega⟩
        clear hm'
        have KP := Aside0.mk (fun W hB => KT.out m (by have := hma.out; omega) W hB)
        cases hc : Op.bytesLess (rdOf ByteArray.empty l0 (m : Int)).toList x.toList
        · rw [hc] at KP hs
          have HS' := Aside0.mk (show bs l0 x k a m = some r by simpa using hs)
          clear hs hc HS
          go_wp2_with (go_at_call 51; refine (KP.out _ (below_step HB0.out (by repeat (first | (with_reducible first | exact HB.out | apply below_alloc | apply pw_below_drewN | apply below_drew1) | exact HB.out)))).mono ?_; rintro e w1 ⟨rfl, hb⟩; have HB1 := Aside0.mk (below_step (by repeat (first | (with_reducible first | exact HB.out | apply below_alloc | apply pw_below_drewN | apply below_drew1) | exact HB.out)) hb); clear hb)
          go_roundw
          case rel => exact ⟨k, a, m, by have := hma.out; omega, rfl, rfl, HS', HB1⟩
          case measure => have := hma.out; simp [intOf]; omega
        · rw [hc] at KP hs
          have HS' := Aside0.mk (show bs l0 x k (m + 1) b = some r by simpa using hs)
          clear hs hc HS
          go_wp2_with (go_at_call 51; refine (KP.out _ (below_step HB0.out (by repeat (first | (with_reducible first | exact HB.out | apply below_alloc | apply pw_below_drewN | apply below_drew1) | exact HB.out)))).mono ?_; rintro e w1 ⟨rfl, hb⟩; have HB1 := Aside0.mk (below_step (by repeat (first | (with_reducible first | exact HB.out | apply below_alloc | apply pw_below_drewN | apply below_drew1) | exact HB.out)) hb); clear hb)
          go_roundw
          case rel => exact ⟨k, m + 1, b, hbn, by go_num, rfl, HS', HB1⟩
          case measure => have := hma.out; simp [intOf]; omega
    · have hs := HS.out
      cases k with
      | zero => simp [bs] at hs
      | succ k =>
        rw [bs, if_neg hlt] at hs
        obtain rfl := Option.some.inj hs
        clear hs HS
        go_wp2
        go_ret
        exact ⟨rfl, HB.out⟩
theorem sort_SearchStrings.mono : ∀ l0 a1 k, LeO (sort_SearchStrings.f k l0 a1) (sort_SearchStrings.f (k + 1) l0 a1) := by
  intro l0 a1 k
  unfold sort_SearchStrings.f
  refine LeO.ite ?_ (LeO.refl _)
  intro r h
  obtain ⟨q, hq, rfl⟩ := Option.map_eq_some_iff.1 h
  rw [bs_mono l0 a1 k 0 l0.length q hq]
  rfl
set_option maxHeartbeats 2000000 in
theorem sort_SearchStrings.calls (k : Nat) (A0 : Option Addr) (c0 : Nat) (l0 : List ByteArray) (a1 : ByteArray) (r : Int) (w : World) (hr0 : Kd.C Kd.string w A0 l0.length l0) (hc0 : l0.length ≤ c0) (h : sort_SearchStrings.f k l0 a1 = some r) :
    Calls Try.prog 35 #[.slice A0 l0.length c0, .string a1] w fun e w' => e = .returned (.int .i64 r) ∧ Below w.heap.size w w' := by
  unfold sort_SearchStrings.f at h
  by_cases hl : l0.length ≤ 1000000
  case neg => rw [if_neg hl] at h; cases h
  rw [if_pos hl] at h
  obtain ⟨q, hq, rfl⟩ := Option.map_eq_some_iff.1 h
  have HR := Aside0.mk hr0
  have HQ := Aside0.mk hq
  have HL := Aside0.mk hl
  have HB := Aside0.mk (Below.refl w.heap.size w)
  clear h hr0 hq hl hc0
  go_enter Try.func35, Try.ntmps35
  go_wp2_with (first | ((with_reducible refine gate_dst (N := 2) rfl ?_); refine box_event ?hg (N := 2) ?hd (cs := #[.slice A0 l0.length c0]) (t := 22) ?hr ?_; (case hd => rfl); (case hg => rfl); (case hr => first | (go_simp; done) | (go_simp; rfl)); intro g2 hg w1 hbox hb; have B2 := Aside0.mk hbox; have HB1 := Aside0.mk (below_step HB.out hb); clear HB; have HB := HB1; clear HB1 hb hbox hg) | ((with_reducible refine gate_dst (N := 3) rfl ?_); refine box_event ?hg (N := 3) ?hd (cs := #[.string a1]) (t := 9) ?hr ?_; (case hd => rfl); (case hg => rfl); (case hr => first | (go_simp; done) | (go_simp; rfl)); intro g3 hg w2 hbox hb; have B2' := Aside0.mk (blk_below B2.out hb); have B3 := Aside0.mk hbox; have HB1 := Aside0.mk (below_step HB.out hb); clear HB; have HB := HB1; clear HB1 hb hbox hg B2; have B2 := B2'; clear B2'; have c2 : w2.cell? ⟨g2, 0, none⟩ = some (.slice A0 l0.length c0) := (blk_cell B2.out 0).trans rfl) | (go_at_call 50; refine (search_calls g2 g3 A0 c0 l0 a1 HL.out k q HQ.out _ (Kd.C_below HR.out HB.out) B2.out B3.out _ (Below.refl _ _)).mono ?_; rintro e w3 ⟨rfl, hb⟩; have HB1 := Aside0.mk (below_step HB.out hb); clear hb))
  go_ret
  exact ⟨rfl, HB1.out⟩
end Go.Proofs.Ytmnkabdaapiikaa
