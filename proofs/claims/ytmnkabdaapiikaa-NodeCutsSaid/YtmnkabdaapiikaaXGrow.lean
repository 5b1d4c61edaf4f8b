/- Room for so many (slices.Grow, of nothing): what the machine's call comes to. -/
import Derived.Test.YtmnkabdaapiikaaKx0
import Derived.BigRegion
namespace Go.Proofs.Ytmnkabdaapiikaa
open Go.RowKit Go.Proofs.YtmnkabdaapiikaaW.PrintWords Go.Proofs.YtmnkabdaapiikaaW.PrintLast Go.Proofs.YtmnkabdaapiikaaW.PrintMore
set_option linter.unusedVariables false
set_option linter.unusedSimpArgs false

theorem info_str : (Try.prog.info? 9).map (fun i => (i.zero, i.size, i.bytes)) = some (some (.string ⟨#[]⟩), 1, 16) := by kernel_rfl
set_option maxHeartbeats 4000000 in
set_option maxRecDepth 100000 in
theorem grow_str (n : Int) (w : World) (h0 : 0 ≤ n) (h1 : n ≤ 1000000) : Calls Try.prog 62 #[.slice none 0 0, .int .i64 n] w fun e w' => ∃ v_ : Value, e = .returned v_ ∧ Kd.R Kd.string 9 w' w.heap.size (fun _ => True) v_ [] ∧ Below w.heap.size w w' := by
  have HB := Aside0.mk (Below.refl w.heap.size w)
  have H1 := Aside0.mk h1
  have b1 : decide (n < 0) = false := decide_eq_false (by omega)
  by_cases hn : n > 0
  case neg =>
    have b2 : decide (n > 0) = false := decide_eq_false hn
    obtain rfl : n = 0 := by omega
    go_enter Try.func62, Try.ntmps62
    go_wp2
    go_ret
    exact ⟨_, rfl, Kd.R_nil _ _ _ _ _, HB.out⟩
  have b2 : decide (n > 0) = true := decide_eq_true hn
  have ew : wrap64 n = n := by unfold wrap64; omega
  go_enter Try.func62, Try.ntmps62
  go_wp2_with ((with_reducible refine gate_builtin (b := .append) (xs := #[.tmp 20, .tmp 21]) rfl ?_); at_builtin; refine Kd.R_append_zeros Kd.string (w0 := w) w.heap.size rfl (.tmp 20) (.tmp 21) 22 3 9 (.string ⟨#[]⟩) 16 rfl Try.underlying22 Try.underlying3 info_str rfl (by decide) (by decide) (.slice none 0 0) [] (.empty) (kx := .i64) n (fun _ => True) rfl ?ax rfl (fun _ _ => trivial) (Kd.R_nil _ _ _ _ _) h0 (Below.refl _ _) (Nat.le_refl _) ?al ?_; (case ax => first | rfl | (simp [ew]; done)); (case al => simp; omega); intro y_ w1 ho hb hg hat; obtain ⟨A, c, ey⟩ := Kd.R_slice ho; subst ey; have HO := Aside0.mk ho; have HC := Aside0.mk (Kd.R_reads' ho).2.1; have XB := Aside0.mk hb; clear ho hb hg hat HB; have HB := XB; clear XB; have hc0 : (0 : Int) ≤ (c : Int) := by omega)
  go_ret
  exact ⟨_, rfl, by have h_ := Kd.R_take (m := 0) HO.out (Nat.zero_le _); simpa using h_, HB.out⟩
theorem info_int : (Try.prog.info? 3).map (fun i => (i.zero, i.size, i.bytes)) = some (some (.int .i64 0), 1, 8) := by kernel_rfl
set_option maxHeartbeats 4000000 in
set_option maxRecDepth 100000 in
theorem grow_int (n : Int) (w : World) (h0 : 0 ≤ n) (h1 : n ≤ 1000000) : Calls Try.prog 63 #[.slice none 0 0, .int .i64 n] w fun e w' => ∃ v_ : Value, e = .returned v_ ∧ Kd.R (Kd.int .i64) 3 w' w.heap.size (fun _ => True) v_ [] ∧ Below w.heap.size w w' := by
  have HB := Aside0.mk (Below.refl w.heap.size w)
  have H1 := Aside0.mk h1
  have b1 : decide (n < 0) = false := decide_eq_false (by omega)
  by_cases hn : n > 0
  case neg =>
    have b2 : decide (n > 0) = false := decide_eq_false hn
    obtain rfl : n = 0 := by omega
    go_enter Try.func63, Try.ntmps63
    go_wp2
    go_ret
    exact ⟨_, rfl, Kd.R_nil _ _ _ _ _, HB.out⟩
  have b2 : decide (n > 0) = true := decide_eq_true hn
  have ew : wrap64 n = n := by unfold wrap64; omega
  go_enter Try.func63, Try.ntmps63
  go_wp2_with ((with_reducible refine gate_builtin (b := .append) (xs := #[.tmp 20, .tmp 21]) rfl ?_); at_builtin; refine Kd.R_append_zeros (Kd.int .i64) (w0 := w) w.heap.size rfl (.tmp 20) (.tmp 21) 23 3 3 (.int .i64 0) 8 rfl Try.underlying23 Try.underlying3 info_int rfl (by decide) (by decide) (.slice none 0 0) [] (0) (kx := .i64) n (fun _ => True) rfl ?ax rfl (fun _ _ => trivial) (Kd.R_nil _ _ _ _ _) h0 (Below.refl _ _) (Nat.le_refl _) ?al ?_; (case ax => first | rfl | (simp [ew]; done)); (case al => simp; omega); intro y_ w1 ho hb hg hat; obtain ⟨A, c, ey⟩ := Kd.R_slice ho; subst ey; have HO := Aside0.mk ho; have HC := Aside0.mk (Kd.R_reads' ho).2.1; have XB := Aside0.mk hb; clear ho hb hg hat HB; have HB := XB; clear XB; have hc0 : (0 : Int) ≤ (c : Int) := by omega)
  go_ret
  exact ⟨_, rfl, by have h_ := Kd.R_take (m := 0) HO.out (Nat.zero_le _); simpa using h_, HB.out⟩
end Go.Proofs.Ytmnkabdaapiikaa
