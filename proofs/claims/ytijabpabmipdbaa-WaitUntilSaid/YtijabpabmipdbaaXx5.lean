-- laid by a program of this session (wip/tools/xprint.py), function by function; Lean checks it
import Derived.Test.YtijabpabmipdbaaXx0
import Derived.Test.YtijabpabmipdbaaXx2
import Derived.Test.YtijabpabmipdbaaXx3
import Derived.Test.YtijabpabmipdbaaXx4
namespace Go.Proofs.Ytijabpabmipdbaa.X
open Go.RowKit Go.Proofs.YtijabpabmipdbaaW.PrintWords Go.Proofs.YtijabpabmipdbaaW.PrintLast Go.Proofs.YtijabpabmipdbaaW.PrintMore
attribute [local go_sem] max2_int min2_int max_two min_two max_three min_three max_four min_four   -- for this text's walks alone
set_option linter.unusedVariables false
set_option linter.unusedSimpArgs false

/-! ### penelopelaw17_WaitUntil: function 5 -/
def penelopelaw17_WaitUntil.f (k : Nat) (a0 : Int) (l1 : List Int) : Option (Bool) := if 0 ≤ (mn (l1.length : Int) 40) then (if (mn (l1.length : Int) 40) ≤ (l1.length : Int) then ((penelopelaw17_alive.f k).bind fun t111 => (if t111 = true then ((wait_Until.f k a0 (l1.take ((mn (l1.length : Int) 40) : Int).toNat)).bind fun t112 => ((peneloperef17_Until.f k a0 (l1.take ((mn (l1.length : Int) 40) : Int).toNat)).bind fun t113 => (some (t112 == t113)))) else (some false))) else (none)) else (none)
theorem penelopelaw17_WaitUntil.mono : ∀ a0 a1 k, LeO (penelopelaw17_WaitUntil.f k a0 a1) (penelopelaw17_WaitUntil.f (k + 1) a0 a1) := by
  intro a0 a1 k
  unfold penelopelaw17_WaitUntil.f
  repeat' first
      | (with_reducible exact penelopelaw17_alive.mono _)
      | (with_reducible exact peneloperef17_Until.mono _ _ _)
      | (with_reducible exact wait_Until.mono _ _ _)
      | (with_reducible exact LeO.refl _)
      | (with_reducible exact LeO.none _)
      | (with_reducible refine LeO.ite ?_ ?_)
      | (with_reducible refine LeO.bind ?_ (fun _ => ?_))
      | exact penelopelaw17_alive.mono _
      | exact peneloperef17_Until.mono _ _ _
      | exact wait_Until.mono _ _ _
      | exact LeO.none _
      | refine LeO.ite ?_ ?_
      | refine LeO.bind ?_ (fun _ => ?_)
set_option maxHeartbeats 8000000 in
set_option maxRecDepth 100000 in
theorem penelopelaw17_WaitUntil.calls (k : Nat) (a0 : Int) (A1 : Option Addr) (c1 : Nat) (l1 : List Int) (r : Bool) (w : World) (hr1 : Kd.C (Kd.int .i64) w A1 l1.length l1) (hc1 : l1.length ≤ c1) (h : penelopelaw17_WaitUntil.f k a0 l1 = some r) :
    Calls Try.prog 5 #[.int .i64 a0, .slice A1 l1.length c1] w fun e w' => e = .returned (.bool r) ∧ Below w.heap.size w w' := by
  unfold penelopelaw17_WaitUntil.f at h
  have hm : mn (l1.length : Int) 40 = ((min l1.length 40 : Nat) : Int) := by unfold mn; split <;> omega
  rw [hm, if_pos (by omega), if_pos (by omega), Int.toNat_natCast] at h
  obtain ⟨m, hm2⟩ : ∃ m, m = min l1.length 40 := ⟨_, rfl⟩
  rw [← hm2] at h
  have hl : (l1.take m).length = m := by rw [List.length_take]; omega
  have hC : Kd.C (Kd.int .i64) w A1 m (l1.take m) := by have := Kd.C_take hr1 (m := m) (by omega); rw [hl] at this; exact this
  obtain ⟨b, h1, h⟩ := Option.bind_eq_some_iff.mp h
  have K1 : Aside0 (∀ w', Calls Try.prog 8 #[] w' fun e w2 => e = .returned (.bool b) ∧ Below w'.heap.size w' w2) := ⟨fun w' => penelopelaw17_alive.calls k b w' h1⟩
  cases b with
  | false =>
    rw [if_neg (by simp)] at h
    obtain rfl := Option.some.inj h
    by_cases h40 : 40 < l1.length
    all_goals
      clear hm hm2 hl hC h1 h
      go_enter Try.func5, Try.ntmps5
      go_wp2_with (go_at_call 8; refine (K1.out _).mono ?_; rintro e w1 ⟨rfl, hb1⟩)
      go_ret
      exact ⟨rfl, ‹_›⟩
  | true =>
    rw [if_pos rfl] at h
    obtain ⟨t, h2, h⟩ := Option.bind_eq_some_iff.mp h
    obtain ⟨u, h3, h⟩ := Option.bind_eq_some_iff.mp h
    obtain rfl := Option.some.inj h
    have K2 : Aside0 (∀ w', Below w.heap.size w w' → Calls Try.prog 13 #[.int .i64 a0, .slice A1 m c1] w' fun e w2 => e = .returned (.int .i64 t) ∧ Below w'.heap.size w' w2) := ⟨fun w' hb => by
      have := wait_Until.calls k a0 A1 c1 (l1.take m) t w' (by rw [hl]; exact Kd.C_below hC hb) (by omega) h2
      rw [hl] at this
      exact this⟩
    have K3 : Aside0 (∀ w', Below w.heap.size w w' → Calls Try.prog 14 #[.int .i64 a0, .slice A1 m c1] w' fun e w2 => e = .returned (.int .i64 u) ∧ Below w'.heap.size w' w2) := ⟨fun w' hb => by
      have := peneloperef17_Until.calls k a0 A1 c1 (l1.take m) u w' (by rw [hl]; exact Kd.C_below hC hb) (by omega) h3
      rw [hl] at this
      exact this.mono fun _ _ z => ⟨z.1, z.2.below⟩⟩
    by_cases h40 : 40 < l1.length
    · obtain rfl : m = 40 := by omega
      clear hm hm2 hl hC h1 h2 h3
      go_enter Try.func5, Try.ntmps5
      go_wp2_with (first | (go_at_call 8; refine (K1.out _).mono ?_; rintro e w1 ⟨rfl, hb1⟩; have HB1 := Aside0.mk hb1; clear hb1) | (go_at_call 13; refine (K2.out _ HB1.out).mono ?_; rintro e w2 ⟨rfl, hb2⟩; have HB2 := Aside0.mk (below_step HB1.out hb2); clear hb2) | (go_at_call 14; refine (K3.out _ HB2.out).mono ?_; rintro e w3 ⟨rfl, hb3⟩; have HB3 := Aside0.mk (below_step HB2.out hb3); clear hb3))
      go_ret
      exact ⟨rfl, HB3.out⟩
    · obtain rfl : m = l1.length := by omega
      clear hm hm2 hl hC h1 h2 h3
      go_enter Try.func5, Try.ntmps5
      go_wp2_with (first | (go_at_call 8; refine (K1.out _).mono ?_; rintro e w1 ⟨rfl, hb1⟩; have HB1 := Aside0.mk hb1; clear hb1) | (go_at_call 13; refine (K2.out _ HB1.out).mono ?_; rintro e w2 ⟨rfl, hb2⟩; have HB2 := Aside0.mk (below_step HB1.out hb2); clear hb2) | (go_at_call 14; refine (K3.out _ HB2.out).mono ?_; rintro e w3 ⟨rfl, hb3⟩; have HB3 := Aside0.mk (below_step HB2.out hb3); clear hb3))
      go_ret
      exact ⟨rfl, HB3.out⟩

/-- THE ONE PURE STATEMENT of penelopelaw17_WaitUntil: yours. -/
def penelopelaw17_WaitUntil.Pure : Prop := ∀ (a0 : Int) (l1 : List Int), (Lit.int .i64 a0).wf = true → l1.length ≤ maxLen → l1.length * 8 ≤ 140737488351232 → (∀ x ∈ l1, (Lit.int .i64 x).wf = true) → ∃ k, penelopelaw17_WaitUntil.f k a0 l1 = some true
theorem penelopelaw17_WaitUntil.walk (P : penelopelaw17_WaitUntil.Pure) (a0 : Int) (a1 : Option Addr) (len1 cap1 : Nat) (z1 : List Int) (w : World) (w0 : (Lit.int .i64 a0).wf = true) (w1 : (a1 = none ∧ len1 = 0 ∧ cap1 = 0 ∧ z1 = []) ∨ ∃ x, a1 = some x ∧ len1 ≤ cap1 ∧ cap1 ≤ maxLen ∧ z1.length = cap1 ∧ (∀ i, i < z1.length → w.cell? (x.add i) = some (.int .i64 (z1.getD i 0))) ∧ ∀ n ∈ z1, (Lit.int .i64 n).wf = true) (y1 : len1 * 8 ≤ 140737488351232) :
    Calls Try.prog 5 #[.int .i64 a0, .slice a1 len1 cap1] w fun e w' => e = .returned (.bool true) ∧ Below w.heap.size w w' := by
  obtain ⟨l1, rfl, hr1, hm1, hw1, hc1⟩ := ReadsInt.ofRowC w1
  obtain ⟨k, h⟩ := P a0 l1 w0 hm1 y1 hw1
  refine (penelopelaw17_WaitUntil.calls k a0 _ _ l1 true w (Kd.C_of_reads (d := (0 : Int)) (h1 := fun _ => rfl) hr1) hc1 h).mono ?_
  rintro e w' ⟨rfl, hd⟩
  exact ⟨rfl, hd⟩

end Go.Proofs.Ytijabpabmipdbaa.X
