/- A task's state out of a text's bytes (task.Get): what the machine's call comes to, as a plain function. -/
import Derived.Test.YtmbpnggldpgcdaaXCut
import Derived.Test.YtmbpnggldpgcdaaZx3
import Derived.Deep.RegionHeld3
namespace Go.Proofs.Ytmbpnggldpgcdaa
open Go.RowKit Go.Proofs.YtmbpnggldpgcdaaW.PrintWords Go.Proofs.YtmbpnggldpgcdaaW.PrintLast Go.Proofs.YtmbpnggldpgcdaaW.PrintMore

/-- The number of so many bytes at a place. -/
def fld (a0 : ByteArray) (m n : Nat) : Int := numOf ((a0.data.toList.drop m).take n)
/-- The place behind so many numbers; a number once it is read. -/
def offs : Nat → Nat
  | 0 => 0
  | 1 => 1
  | 2 => 2
  | 3 => 8
  | _ => 14
def offsI : Nat → Int
  | 0 => 0
  | 1 => 1
  | 2 => 2
  | 3 => 8
  | _ => 14
def fst' (a0 : ByteArray) (k i n : Nat) : Int := if i < k then fld a0 (offs i) n else 0
/-- What task.Get comes to. -/
def task_Get.f (k : Nat) (a0 : ByteArray) : Option (Int × Int × Int × Int × ByteArray × Int) :=
  if a0.size ≤ 140737488351232 then
    (if a0.size < 14 then some (0, 0, 0, 0, ⟨#[]⟩, 3) else
     if (cutOf a0 14).2.2 ≠ 0 then some (0, 0, 0, 0, ⟨#[]⟩, (cutOf a0 14).2.2) else
     if (cutOf a0 14).2.1 ≠ a0.size then some (0, 0, 0, 0, ⟨#[]⟩, 4) else
     (Z.task_stands.f k (fld a0 0 1) (fld a0 1 1) (fld a0 2 6) (fld a0 8 6) (cutOf a0 14).1).bind fun b => if b = true then some (fld a0 0 1, fld a0 1 1, fld a0 2 6, fld a0 8 6, (cutOf a0 14).1, 0) else some (0, 0, 0, 0, ⟨#[]⟩, 4))
  else none
theorem task_Get.mono : ∀ a0 k, LeO (task_Get.f k a0) (task_Get.f (k + 1) a0) := by
  intro a0 k
  unfold task_Get.f
  refine LeO.ite (LeO.ite (LeO.refl _) (LeO.ite (LeO.refl _) (LeO.ite (LeO.refl _) (LeO.bind (Z.task_stands.mono _ _ _ _ _ _) fun _ => LeO.refl _)))) (LeO.refl _)
set_option maxHeartbeats 4000000 in
set_option maxRecDepth 100000 in
theorem task_Get.calls (k : Nat) (a0 : ByteArray) (r1 r2 r3 r4 : Int) (r5 : ByteArray) (r6 : Int) (w : World) (h : task_Get.f k a0 = some (r1, r2, r3, r4, r5, r6)) :
    Calls Try.prog 28 #[.string a0] w fun e w' => e = .returned (.tuple #[.agg #[.int .i64 r1, .int .i64 r2, .int .i64 r3, .int .i64 r4, .string r5], .int .i64 r6]) ∧ Below w.heap.size w w' := by
  unfold task_Get.f at h
  by_cases hs : a0.size ≤ 140737488351232
  case neg => rw [if_neg hs] at h; cases h
  rw [if_pos hs] at h
  have hu26 := Try.underlying26
  have hu58 := Try.underlying58
  have HH := Aside0.mk h
  clear h
  have HB := Aside0.mk (Below.refl w.heap.size w)
  go_enter Try.func28, Try.ntmps28
  go_wp2_with (first | ((with_reducible refine gate_dst (N := 2) rfl ?_); refine box_event ?hg (N := 2) ?hd (cs := #[.int .i64 0, .int .i64 0, .int .i64 0, .int .i64 0, .string (⟨#[]⟩ : ByteArray)]) (t := 26) ?hr ?_; (case hd => rfl); (case hg => rfl); (case hr => first | (go_simp; done) | (go_simp; rfl)); intro g2 hg w1 hbox hb; have B2 := Aside0.mk hbox; have HB1 := Aside0.mk (below_step HB.out hb); have G2 := Aside0.mk (show w.heap.size ≤ g2 by rw [hg]; exact below_size HB.out); clear HB; have HB := HB1; clear HB1 hb hbox hg) | ((with_reducible refine gate_dst (N := 4) rfl ?_); refine box_event ?hg (N := 4) ?hd (cs := #[.int .i64 0, .int .i64 0, .int .i64 0, .int .i64 0, .string (⟨#[]⟩ : ByteArray)]) (t := 26) ?hr ?_; (case hd => rfl); (case hg => rfl); (case hr => first | (go_simp; done) | (go_simp; rfl)); intro g4 hg w2 hbox hb; have B2' := Aside0.mk (blk_below B2.out hb); have N24 := Aside0.mk (show g2 ≠ g4 by rw [hg]; exact Nat.ne_of_lt (blk_lt B2.out)); have B4 := Aside0.mk hbox; have HB1 := Aside0.mk (below_step HB.out hb); have G4 := Aside0.mk (show w.heap.size ≤ g4 by rw [hg]; exact below_size HB.out); clear HB; have HB := HB1; clear HB1 hb hbox hg B2; have B2 := B2'; clear B2'))
  -- LOOP
  obtain ⟨w3, hw3⟩ : ∃ w3, w3 = w2.alloc (.cells #[.pointer (some ⟨g4, 0, none⟩), .int .i64 1, .pointer (some ⟨g4, 1, none⟩), .int .i64 1, .pointer (some ⟨g4, 2, none⟩), .int .i64 6, .pointer (some ⟨g4, 3, none⟩), .int .i64 6] 58 (0, 0)) := ⟨_, rfl⟩
  rw [← hw3]
  obtain ⟨g17, hg17⟩ : ∃ g, g = w2.heap.size := ⟨_, rfl⟩
  rw [← hg17]
  have B17 := Aside0.mk (show w3.heap[g17]? = some (.cells #[.pointer (some ⟨g4, 0, none⟩), .int .i64 1, .pointer (some ⟨g4, 1, none⟩), .int .i64 1, .pointer (some ⟨g4, 2, none⟩), .int .i64 6, .pointer (some ⟨g4, 3, none⟩), .int .i64 6] 58 (0, 0)) by rw [hw3, hg17]; exact blk_new w2 _)
  have B2' := Aside0.mk (show w3.heap[g2]? = some (.cells #[.int .i64 0, .int .i64 0, .int .i64 0, .int .i64 0, .string (⟨#[]⟩ : ByteArray)] 26 (0, 0)) by rw [hw3]; exact blk_alloc B2.out _)
  have B4' := Aside0.mk (show w3.heap[g4]? = some (.cells #[.int .i64 0, .int .i64 0, .int .i64 0, .int .i64 0, .string (⟨#[]⟩ : ByteArray)] 26 (0, 0)) by rw [hw3]; exact blk_alloc B4.out _)
  have HB' := Aside0.mk (show Below w.heap.size w w3 by rw [hw3]; exact below_alloc HB.out _)
  have N217 := Aside0.mk (show g17 ≠ g2 by rw [hg17]; exact Nat.ne_of_gt (blk_lt B2.out))
  have N417 := Aside0.mk (show g17 ≠ g4 by rw [hg17]; exact Nat.ne_of_gt (blk_lt B4.out))
  clear hw3 hg17 B2 B4 HB
  go_loopw [5, 6, 19] (fun at_ bad i wr => ∃ k : Nat, k ≤ 4 ∧ i = .int .i64 k ∧ bad = .int .i64 0 ∧ at_ = .int .i64 (offsI k) ∧ Aside0 (offs k ≤ a0.size) ∧
    Aside0 (wr.heap[g4]? = some (.cells #[.int .i64 (fst' a0 k 0 1), .int .i64 (fst' a0 k 1 1), .int .i64 (fst' a0 k 2 6), .int .i64 (fst' a0 k 3 6), .string (⟨#[]⟩ : ByteArray)] 26 (0, 0))) ∧
    Aside0 (wr.heap[g2]? = some (.cells #[.int .i64 0, .int .i64 0, .int .i64 0, .int .i64 0, .string (⟨#[]⟩ : ByteArray)] 26 (0, 0))) ∧
    Aside0 (wr.heap[g17]? = some (.cells #[.pointer (some ⟨g4, 0, none⟩), .int .i64 1, .pointer (some ⟨g4, 1, none⟩), .int .i64 1, .pointer (some ⟨g4, 2, none⟩), .int .i64 6, .pointer (some ⟨g4, 3, none⟩), .int .i64 6] 58 (0, 0))) ∧ Aside0 (Below w.heap.size w wr)) (fun _ _ i _ => 4 - (intOf i).toNat)
  case atStart => exact ⟨0, by omega, rfl, rfl, rfl, ⟨by simp [offs]⟩, B4', B2', B17, HB'⟩
  case round =>
    clear B4' B2' B17 HB'
    obtain ⟨k, hk, rfl, rfl, rfl, HO, B4, B2, B17, HB⟩ := hrel
    obtain rfl | rfl | rfl | rfl | rfl : k = 0 ∨ k = 1 ∨ k = 2 ∨ k = 3 ∨ k = 4 := by omega
    · -- round 0
      have E : code_Get.f a0 0 1 = some (if a0.size < 0 + 1 then (0, 0, 3) else (fld a0 0 1, 1, 0)) := code_Get_in (m := 0) (n := 1) hs HO.out (by omega) (by omega)
      have c170 : wr.cell? ⟨g17, 0, none⟩ = some (.pointer (some ⟨g4, 0, none⟩)) := (blk_cell B17.out 0).trans rfl
      have c171 : wr.cell? ⟨g17, 1, none⟩ = some (.int .i64 1) := (blk_cell B17.out 1).trans rfl
      simp only [offsI]
      obtain ⟨⟨r1_, r2_, r3_⟩, hr⟩ : ∃ r : Int × Int × Int, r = (if a0.size < 0 + 1 then (0, 0, 3) else (fld a0 0 1, 1, 0)) := ⟨_, rfl⟩
      rw [← hr] at E
      have HR := Aside0.mk hr
      have KG := Aside0.mk (fun w => code_Get.calls a0 0 1 _ _ _ w E)
      clear E hr
      go_wp2_with fail
      obtain ⟨w4, hw4⟩ : ∃ w4, w4 = wr.alloc (.cells #[.pointer (some ⟨g4, 0, none⟩), .int .i64 1] 58 (0, 0)) := ⟨_, rfl⟩
      rw [← hw4]
      obtain ⟨g8, hg8⟩ : ∃ g, g = wr.heap.size := ⟨_, rfl⟩
      rw [← hg8]
      have B8 := Aside0.mk (show w4.heap[g8]? = some (.cells #[.pointer (some ⟨g4, 0, none⟩), .int .i64 1] 58 (0, 0)) by rw [hw4, hg8]; exact blk_new wr _)
      have B4' := Aside0.mk (show w4.heap[g4]? = some (.cells #[.int .i64 (fst' a0 0 0 1), .int .i64 (fst' a0 0 1 1), .int .i64 (fst' a0 0 2 6), .int .i64 (fst' a0 0 3 6), .string (⟨#[]⟩ : ByteArray)] 26 (0, 0)) by rw [hw4]; exact blk_alloc B4.out _)
      have B2' := Aside0.mk (show w4.heap[g2]? = some (.cells #[.int .i64 0, .int .i64 0, .int .i64 0, .int .i64 0, .string (⟨#[]⟩ : ByteArray)] 26 (0, 0)) by rw [hw4]; exact blk_alloc B2.out _)
      have B17' := Aside0.mk (show w4.heap[g17]? = some (.cells #[.pointer (some ⟨g4, 0, none⟩), .int .i64 1, .pointer (some ⟨g4, 1, none⟩), .int .i64 1, .pointer (some ⟨g4, 2, none⟩), .int .i64 6, .pointer (some ⟨g4, 3, none⟩), .int .i64 6] 58 (0, 0)) by rw [hw4]; exact blk_alloc B17.out _)
      have HB' := Aside0.mk (show Below w.heap.size w w4 by rw [hw4]; exact below_alloc HB.out _)
      clear hw4 hg8 B4 B2 B17 HB c170 c171
      have c80 : w4.cell? ⟨g8, 0, none⟩ = some (.pointer (some ⟨g4, 0, none⟩)) := (blk_cell B8.out 0).trans rfl
      have c81 : w4.cell? ⟨g8, 1, none⟩ = some (.int .i64 1) := (blk_cell B8.out 1).trans rfl
      go_cut [5, 6, 19] from 19 to 39 (fun at_ bad i wx => at_ = .int .i64 r2_ ∧ bad = .int .i64 r3_ ∧ i = .int .i64 0 ∧ Aside0 (wx.heap[g4]? = some (.cells (#[.int .i64 (fst' a0 0 0 1), .int .i64 (fst' a0 0 1 1), .int .i64 (fst' a0 0 2 6), .int .i64 (fst' a0 0 3 6), .string (⟨#[]⟩ : ByteArray)].setIfInBounds 0 (.int .i64 r1_)) 26 (0, 0))) ∧ Aside0 (wx.heap[g2]? = some (.cells #[.int .i64 0, .int .i64 0, .int .i64 0, .int .i64 0, .string (⟨#[]⟩ : ByteArray)] 26 (0, 0))) ∧ Aside0 (wx.heap[g17]? = some (.cells #[.pointer (some ⟨g4, 0, none⟩), .int .i64 1, .pointer (some ⟨g4, 1, none⟩), .int .i64 1, .pointer (some ⟨g4, 2, none⟩), .int .i64 6, .pointer (some ⟨g4, 3, none⟩), .int .i64 6] 58 (0, 0))) ∧ Aside0 (Below w.heap.size w wx))
      case first =>
        go_region_with (go_at_call 41; refine (KG.out _).mono ?_; rintro e w5 ⟨rfl, hb⟩; have X8 := blk_below (by (with_reducible repeat (first | refine blk_drewN ?_ _ | refine blk_drew ?_ | refine blk_alloc ?_ _)); exact B8.out) hb; have X4 := blk_below (by (with_reducible repeat (first | refine blk_drewN ?_ _ | refine blk_drew ?_ | refine blk_alloc ?_ _)); exact B4'.out) hb; have X2 := Aside0.mk (blk_below (by (with_reducible repeat (first | refine blk_drewN ?_ _ | refine blk_drew ?_ | refine blk_alloc ?_ _)); exact B2'.out) hb); have X17 := Aside0.mk (blk_below (by (with_reducible repeat (first | refine blk_drewN ?_ _ | refine blk_drew ?_ | refine blk_alloc ?_ _)); exact B17'.out) hb); have XB := Aside0.mk (below_step (by repeat (first | (with_reducible first | exact HB'.out | apply below_alloc | apply pw_below_drewN | apply below_drew1) | exact HB'.out)) hb); have c90 : w5.cell? ⟨g8, 0, none⟩ = some (.pointer (some ⟨g4, 0, none⟩)) := (blk_cell X8 0).trans rfl; have c94 : w5.cell? ⟨g4, 0, none⟩ = _ := (blk_cell X4 0).trans rfl; have f94 := blk_frozen X4 0; have Y4 := Aside0.mk X4; clear X8 X4 hb)
        all_goals (try go_wp2_with fail)
        all_goals go_meet
        all_goals exact ⟨rfl, rfl, rfl, ⟨blk_set Y4.out _ _⟩, ⟨blk_far X2.out N24.out _⟩, ⟨blk_far X17.out N417.out _⟩, ⟨below_set XB.out G4.out⟩⟩
      case rest =>
        clear B4' B2' B17' HB' c80 c81 KG B8
        obtain ⟨rfl, rfl, rfl, B4, B2, B17, HB⟩ := hcut
        have hr := HR.out
        clear HR
        by_cases h : a0.size < 0 + 1
        · rw [if_pos h] at hr
          simp only [Prod.mk.injEq] at hr
          obtain ⟨rfl, rfl, rfl⟩ := hr
          have e2 := HH.out
          rw [if_pos (by omega)] at e2
          simp only [Option.some.injEq, Prod.mk.injEq] at e2
          obtain ⟨rfl, rfl, rfl, rfl, rfl, rfl⟩ := e2
          clear h
          have z0 : wc.cell? ⟨g2, 0, none⟩ = some (.int .i64 0) := (blk_cell B2.out 0).trans rfl
          have zf0 := blk_frozen B2.out 0
          have z1 : wc.cell? ⟨g2, 1, none⟩ = some (.int .i64 0) := (blk_cell B2.out 1).trans rfl
          have zf1 := blk_frozen B2.out 1
          have z2 : wc.cell? ⟨g2, 2, none⟩ = some (.int .i64 0) := (blk_cell B2.out 2).trans rfl
          have zf2 := blk_frozen B2.out 2
          have z3 : wc.cell? ⟨g2, 3, none⟩ = some (.int .i64 0) := (blk_cell B2.out 3).trans rfl
          have zf3 := blk_frozen B2.out 3
          have z4 : wc.cell? ⟨g2, 4, none⟩ = some (.string (⟨#[]⟩ : ByteArray)) := (blk_cell B2.out 4).trans rfl
          have zf4 := blk_frozen B2.out 4
          go_wp2
          refine bodyPost_ret (results_ct rfl _ _ g2 26 #[.int .i64 0, .int .i64 0, .int .i64 0, .int .i64 0, .string (⟨#[]⟩ : ByteArray)] (0, 0) _ rfl (by (with_reducible repeat (first | refine blk_drewN ?_ _ | refine blk_drew ?_ | refine blk_alloc ?_ _)); refine blk_put (cs := #[.int .i64 0, .int .i64 0, .int .i64 0, .int .i64 0, .string (⟨#[]⟩ : ByteArray)]) ?_ 4 _ rfl; (with_reducible repeat (first | refine blk_drewN ?_ _ | refine blk_drew ?_ | refine blk_alloc ?_ _)); refine blk_put (cs := #[.int .i64 0, .int .i64 0, .int .i64 0, .int .i64 0, .string (⟨#[]⟩ : ByteArray)]) ?_ 3 _ rfl; (with_reducible repeat (first | refine blk_drewN ?_ _ | refine blk_drew ?_ | refine blk_alloc ?_ _)); refine blk_put (cs := #[.int .i64 0, .int .i64 0, .int .i64 0, .int .i64 0, .string (⟨#[]⟩ : ByteArray)]) ?_ 2 _ rfl; (with_reducible repeat (first | refine blk_drewN ?_ _ | refine blk_drew ?_ | refine blk_alloc ?_ _)); refine blk_put (cs := #[.int .i64 0, .int .i64 0, .int .i64 0, .int .i64 0, .string (⟨#[]⟩ : ByteArray)]) ?_ 1 _ rfl; (with_reducible repeat (first | refine blk_drewN ?_ _ | refine blk_drew ?_ | refine blk_alloc ?_ _)); refine blk_put (cs := #[.int .i64 0, .int .i64 0, .int .i64 0, .int .i64 0, .string (⟨#[]⟩ : ByteArray)]) ?_ 0 _ rfl; (with_reducible repeat (first | refine blk_drewN ?_ _ | refine blk_drew ?_ | refine blk_alloc ?_ _)); exact B2.out) Try.underlying26 rfl (by kernel_rfl)) rfl ?_
          exact ⟨rfl, by repeat (first | (with_reducible first | exact HB.out | apply below_alloc | apply pw_below_drewN | apply below_drew1 | refine below_set ?_ G2.out) | exact HB.out)⟩
        · rw [if_neg h] at hr
          simp only [Prod.mk.injEq] at hr
          obtain ⟨rfl, rfl, rfl⟩ := hr
          have HO' := Aside0.mk (show 1 ≤ a0.size by omega)
          clear h
          go_wp2_with fail
          go_roundw
          case rel => exact ⟨1, by omega, rfl, rfl, rfl, ⟨HO'.out⟩, ⟨by rw [B4.out]; simp [fst', offs]⟩, B2, B17, HB⟩
          case measure => simp [intOf]
    · -- round 1
      have E : code_Get.f a0 1 1 = some (if a0.size < 1 + 1 then (0, 0, 3) else (fld a0 1 1, 2, 0)) := code_Get_in (m := 1) (n := 1) hs HO.out (by omega) (by omega)
      have c170 : wr.cell? ⟨g17, 2, none⟩ = some (.pointer (some ⟨g4, 1, none⟩)) := (blk_cell B17.out 2).trans rfl
      have c171 : wr.cell? ⟨g17, 3, none⟩ = some (.int .i64 1) := (blk_cell B17.out 3).trans rfl
      simp only [offsI]
      obtain ⟨⟨r1_, r2_, r3_⟩, hr⟩ : ∃ r : Int × Int × Int, r = (if a0.size < 1 + 1 then (0, 0, 3) else (fld a0 1 1, 2, 0)) := ⟨_, rfl⟩
      rw [← hr] at E
      have HR := Aside0.mk hr
      have KG := Aside0.mk (fun w => code_Get.calls a0 1 1 _ _ _ w E)
      clear E hr
      go_wp2_with fail
      obtain ⟨w4, hw4⟩ : ∃ w4, w4 = wr.alloc (.cells #[.pointer (some ⟨g4, 1, none⟩), .int .i64 1] 58 (0, 0)) := ⟨_, rfl⟩
      rw [← hw4]
      obtain ⟨g8, hg8⟩ : ∃ g, g = wr.heap.size := ⟨_, rfl⟩
      rw [← hg8]
      have B8 := Aside0.mk (show w4.heap[g8]? = some (.cells #[.pointer (some ⟨g4, 1, none⟩), .int .i64 1] 58 (0, 0)) by rw [hw4, hg8]; exact blk_new wr _)
      have B4' := Aside0.mk (show w4.heap[g4]? = some (.cells #[.int .i64 (fst' a0 1 0 1), .int .i64 (fst' a0 1 1 1), .int .i64 (fst' a0 1 2 6), .int .i64 (fst' a0 1 3 6), .string (⟨#[]⟩ : ByteArray)] 26 (0, 0)) by rw [hw4]; exact blk_alloc B4.out _)
      have B2' := Aside0.mk (show w4.heap[g2]? = some (.cells #[.int .i64 0, .int .i64 0, .int .i64 0, .int .i64 0, .string (⟨#[]⟩ : ByteArray)] 26 (0, 0)) by rw [hw4]; exact blk_alloc B2.out _)
      have B17' := Aside0.mk (show w4.heap[g17]? = some (.cells #[.pointer (some ⟨g4, 0, none⟩), .int .i64 1, .pointer (some ⟨g4, 1, none⟩), .int .i64 1, .pointer (some ⟨g4, 2, none⟩), .int .i64 6, .pointer (some ⟨g4, 3, none⟩), .int .i64 6] 58 (0, 0)) by rw [hw4]; exact blk_alloc B17.out _)
      have HB' := Aside0.mk (show Below w.heap.size w w4 by rw [hw4]; exact below_alloc HB.out _)
      clear hw4 hg8 B4 B2 B17 HB c170 c171
      have c80 : w4.cell? ⟨g8, 0, none⟩ = some (.pointer (some ⟨g4, 1, none⟩)) := (blk_cell B8.out 0).trans rfl
      have c81 : w4.cell? ⟨g8, 1, none⟩ = some (.int .i64 1) := (blk_cell B8.out 1).trans rfl
      go_cut [5, 6, 19] from 19 to 39 (fun at_ bad i wx => at_ = .int .i64 r2_ ∧ bad = .int .i64 r3_ ∧ i = .int .i64 1 ∧ Aside0 (wx.heap[g4]? = some (.cells (#[.int .i64 (fst' a0 1 0 1), .int .i64 (fst' a0 1 1 1), .int .i64 (fst' a0 1 2 6), .int .i64 (fst' a0 1 3 6), .string (⟨#[]⟩ : ByteArray)].setIfInBounds 1 (.int .i64 r1_)) 26 (0, 0))) ∧ Aside0 (wx.heap[g2]? = some (.cells #[.int .i64 0, .int .i64 0, .int .i64 0, .int .i64 0, .string (⟨#[]⟩ : ByteArray)] 26 (0, 0))) ∧ Aside0 (wx.heap[g17]? = some (.cells #[.pointer (some ⟨g4, 0, none⟩), .int .i64 1, .pointer (some ⟨g4, 1, none⟩), .int .i64 1, .pointer (some ⟨g4, 2, none⟩), .int .i64 6, .pointer (some ⟨g4, 3, none⟩), .int .i64 6] 58 (0, 0))) ∧ Aside0 (Below w.heap.size w wx))
      case first =>
        go_region_with (go_at_call 41; refine (KG.out _).mono ?_; rintro e w5 ⟨rfl, hb⟩; have X8 := blk_below (by (with_reducible repeat (first | refine blk_drewN ?_ _ | refine blk_drew ?_ | refine blk_alloc ?_ _)); exact B8.out) hb; have X4 := blk_below (by (with_reducible repeat (first | refine blk_drewN ?_ _ | refine blk_drew ?_ | refine blk_alloc ?_ _)); exact B4'.out) hb; have X2 := Aside0.mk (blk_below (by (with_reducible repeat (first | refine blk_drewN ?_ _ | refine blk_drew ?_ | refine blk_alloc ?_ _)); exact B2'.out) hb); have X17 := Aside0.mk (blk_below (by (with_reducible repeat (first | refine blk_drewN ?_ _ | refine blk_drew ?_ | refine blk_alloc ?_ _)); exact B17'.out) hb); have XB := Aside0.mk (below_step (by repeat (first | (with_reducible first | exact HB'.out | apply below_alloc | apply pw_below_drewN | apply below_drew1) | exact HB'.out)) hb); have c90 : w5.cell? ⟨g8, 0, none⟩ = some (.pointer (some ⟨g4, 1, none⟩)) := (blk_cell X8 0).trans rfl; have c94 : w5.cell? ⟨g4, 1, none⟩ = _ := (blk_cell X4 1).trans rfl; have f94 := blk_frozen X4 1; have Y4 := Aside0.mk X4; clear X8 X4 hb)
        all_goals (try go_wp2_with fail)
        all_goals go_meet
        all_goals exact ⟨rfl, rfl, rfl, ⟨blk_set Y4.out _ _⟩, ⟨blk_far X2.out N24.out _⟩, ⟨blk_far X17.out N417.out _⟩, ⟨below_set XB.out G4.out⟩⟩
      case rest =>
        clear B4' B2' B17' HB' c80 c81 KG B8
        obtain ⟨rfl, rfl, rfl, B4, B2, B17, HB⟩ := hcut
        have hr := HR.out
        clear HR
        by_cases h : a0.size < 1 + 1
        · rw [if_pos h] at hr
          simp only [Prod.mk.injEq] at hr
          obtain ⟨rfl, rfl, rfl⟩ := hr
          have e2 := HH.out
          rw [if_pos (by omega)] at e2
          simp only [Option.some.injEq, Prod.mk.injEq] at e2
          obtain ⟨rfl, rfl, rfl, rfl, rfl, rfl⟩ := e2
          clear h
          have z0 : wc.cell? ⟨g2, 0, none⟩ = some (.int .i64 0) := (blk_cell B2.out 0).trans rfl
          have zf0 := blk_frozen B2.out 0
          have z1 : wc.cell? ⟨g2, 1, none⟩ = some (.int .i64 0) := (blk_cell B2.out 1).trans rfl
          have zf1 := blk_frozen B2.out 1
          have z2 : wc.cell? ⟨g2, 2, none⟩ = some (.int .i64 0) := (blk_cell B2.out 2).trans rfl
          have zf2 := blk_frozen B2.out 2
          have z3 : wc.cell? ⟨g2, 3, none⟩ = some (.int .i64 0) := (blk_cell B2.out 3).trans rfl
          have zf3 := blk_frozen B2.out 3
          have z4 : wc.cell? ⟨g2, 4, none⟩ = some (.string (⟨#[]⟩ : ByteArray)) := (blk_cell B2.out 4).trans rfl
          have zf4 := blk_frozen B2.out 4
          go_wp2
          refine bodyPost_ret (results_ct rfl _ _ g2 26 #[.int .i64 0, .int .i64 0, .int .i64 0, .int .i64 0, .string (⟨#[]⟩ : ByteArray)] (0, 0) _ rfl (by (with_reducible repeat (first | refine blk_drewN ?_ _ | refine blk_drew ?_ | refine blk_alloc ?_ _)); refine blk_put (cs := #[.int .i64 0, .int .i64 0, .int .i64 0, .int .i64 0, .string (⟨#[]⟩ : ByteArray)]) ?_ 4 _ rfl; (with_reducible repeat (first | refine blk_drewN ?_ _ | refine blk_drew ?_ | refine blk_alloc ?_ _)); refine blk_put (cs := #[.int .i64 0, .int .i64 0, .int .i64 0, .int .i64 0, .string (⟨#[]⟩ : ByteArray)]) ?_ 3 _ rfl; (with_reducible repeat (first | refine blk_drewN ?_ _ | refine blk_drew ?_ | refine blk_alloc ?_ _)); refine blk_put (cs := #[.int .i64 0, .int .i64 0, .int .i64 0, .int .i64 0, .string (⟨#[]⟩ : ByteArray)]) ?_ 2 _ rfl; (with_reducible repeat (first | refine blk_drewN ?_ _ | refine blk_drew ?_ | refine blk_alloc ?_ _)); refine blk_put (cs := #[.int .i64 0, .int .i64 0, .int .i64 0, .int .i64 0, .string (⟨#[]⟩ : ByteArray)]) ?_ 1 _ rfl; (with_reducible repeat (first | refine blk_drewN ?_ _ | refine blk_drew ?_ | refine blk_alloc ?_ _)); refine blk_put (cs := #[.int .i64 0, .int .i64 0, .int .i64 0, .int .i64 0, .string (⟨#[]⟩ : ByteArray)]) ?_ 0 _ rfl; (with_reducible repeat (first | refine blk_drewN ?_ _ | refine blk_drew ?_ | refine blk_alloc ?_ _)); exact B2.out) Try.underlying26 rfl (by kernel_rfl)) rfl ?_
          exact ⟨rfl, by repeat (first | (with_reducible first | exact HB.out | apply below_alloc | apply pw_below_drewN | apply below_drew1 | refine below_set ?_ G2.out) | exact HB.out)⟩
        · rw [if_neg h] at hr
          simp only [Prod.mk.injEq] at hr
          obtain ⟨rfl, rfl, rfl⟩ := hr
          have HO' := Aside0.mk (show 2 ≤ a0.size by omega)
          clear h
          go_wp2_with fail
          go_roundw
          case rel => exact ⟨2, by omega, rfl, rfl, rfl, ⟨HO'.out⟩, ⟨by rw [B4.out]; simp [fst', offs]⟩, B2, B17, HB⟩
          case measure => simp [intOf]
    · -- round 2
      have E : code_Get.f a0 2 6 = some (if a0.size < 2 + 6 then (0, 0, 3) else (fld a0 2 6, 8, 0)) := code_Get_in (m := 2) (n := 6) hs HO.out (by omega) (by omega)
      have c170 : wr.cell? ⟨g17, 4, none⟩ = some (.pointer (some ⟨g4, 2, none⟩)) := (blk_cell B17.out 4).trans rfl
      have c171 : wr.cell? ⟨g17, 5, none⟩ = some (.int .i64 6) := (blk_cell B17.out 5).trans rfl
      simp only [offsI]
      obtain ⟨⟨r1_, r2_, r3_⟩, hr⟩ : ∃ r : Int × Int × Int, r = (if a0.size < 2 + 6 then (0, 0, 3) else (fld a0 2 6, 8, 0)) := ⟨_, rfl⟩
      rw [← hr] at E
      have HR := Aside0.mk hr
      have KG := Aside0.mk (fun w => code_Get.calls a0 2 6 _ _ _ w E)
      clear E hr
      go_wp2_with fail
      obtain ⟨w4, hw4⟩ : ∃ w4, w4 = wr.alloc (.cells #[.pointer (some ⟨g4, 2, none⟩), .int .i64 6] 58 (0, 0)) := ⟨_, rfl⟩
      rw [← hw4]
      obtain ⟨g8, hg8⟩ : ∃ g, g = wr.heap.size := ⟨_, rfl⟩
      rw [← hg8]
      have B8 := Aside0.mk (show w4.heap[g8]? = some (.cells #[.pointer (some ⟨g4, 2, none⟩), .int .i64 6] 58 (0, 0)) by rw [hw4, hg8]; exact blk_new wr _)
      have B4' := Aside0.mk (show w4.heap[g4]? = some (.cells #[.int .i64 (fst' a0 2 0 1), .int .i64 (fst' a0 2 1 1), .int .i64 (fst' a0 2 2 6), .int .i64 (fst' a0 2 3 6), .string (⟨#[]⟩ : ByteArray)] 26 (0, 0)) by rw [hw4]; exact blk_alloc B4.out _)
      have B2' := Aside0.mk (show w4.heap[g2]? = some (.cells #[.int .i64 0, .int .i64 0, .int .i64 0, .int .i64 0, .string (⟨#[]⟩ : ByteArray)] 26 (0, 0)) by rw [hw4]; exact blk_alloc B2.out _)
      have B17' := Aside0.mk (show w4.heap[g17]? = some (.cells #[.pointer (some ⟨g4, 0, none⟩), .int .i64 1, .pointer (some ⟨g4, 1, none⟩), .int .i64 1, .pointer (some ⟨g4, 2, none⟩), .int .i64 6, .pointer (some ⟨g4, 3, none⟩), .int .i64 6] 58 (0, 0)) by rw [hw4]; exact blk_alloc B17.out _)
      have HB' := Aside0.mk (show Below w.heap.size w w4 by rw [hw4]; exact below_alloc HB.out _)
      clear hw4 hg8 B4 B2 B17 HB c170 c171
      have c80 : w4.cell? ⟨g8, 0, none⟩ = some (.pointer (some ⟨g4, 2, none⟩)) := (blk_cell B8.out 0).trans rfl
      have c81 : w4.cell? ⟨g8, 1, none⟩ = some (.int .i64 6) := (blk_cell B8.out 1).trans rfl
      go_cut [5, 6, 19] from 19 to 39 (fun at_ bad i wx => at_ = .int .i64 r2_ ∧ bad = .int .i64 r3_ ∧ i = .int .i64 2 ∧ Aside0 (wx.heap[g4]? = some (.cells (#[.int .i64 (fst' a0 2 0 1), .int .i64 (fst' a0 2 1 1), .int .i64 (fst' a0 2 2 6), .int .i64 (fst' a0 2 3 6), .string (⟨#[]⟩ : ByteArray)].setIfInBounds 2 (.int .i64 r1_)) 26 (0, 0))) ∧ Aside0 (wx.heap[g2]? = some (.cells #[.int .i64 0, .int .i64 0, .int .i64 0, .int .i64 0, .string (⟨#[]⟩ : ByteArray)] 26 (0, 0))) ∧ Aside0 (wx.heap[g17]? = some (.cells #[.pointer (some ⟨g4, 0, none⟩), .int .i64 1, .pointer (some ⟨g4, 1, none⟩), .int .i64 1, .pointer (some ⟨g4, 2, none⟩), .int .i64 6, .pointer (some ⟨g4, 3, none⟩), .int .i64 6] 58 (0, 0))) ∧ Aside0 (Below w.heap.size w wx))
      case first =>
        go_region_with (go_at_call 41; refine (KG.out _).mono ?_; rintro e w5 ⟨rfl, hb⟩; have X8 := blk_below (by (with_reducible repeat (first | refine blk_drewN ?_ _ | refine blk_drew ?_ | refine blk_alloc ?_ _)); exact B8.out) hb; have X4 := blk_below (by (with_reducible repeat (first | refine blk_drewN ?_ _ | refine blk_drew ?_ | refine blk_alloc ?_ _)); exact B4'.out) hb; have X2 := Aside0.mk (blk_below (by (with_reducible repeat (first | refine blk_drewN ?_ _ | refine blk_drew ?_ | refine blk_alloc ?_ _)); exact B2'.out) hb); have X17 := Aside0.mk (blk_below (by (with_reducible repeat (first | refine blk_drewN ?_ _ | refine blk_drew ?_ | refine blk_alloc ?_ _)); exact B17'.out) hb); have XB := Aside0.mk (below_step (by repeat (first | (with_reducible first | exact HB'.out | apply below_alloc | apply pw_below_drewN | apply below_drew1) | exact HB'.out)) hb); have c90 : w5.cell? ⟨g8, 0, none⟩ = some (.pointer (some ⟨g4, 2, none⟩)) := (blk_cell X8 0).trans rfl; have c94 : w5.cell? ⟨g4, 2, none⟩ = _ := (blk_cell X4 2).trans rfl; have f94 := blk_frozen X4 2; have Y4 := Aside0.mk X4; clear X8 X4 hb)
        all_goals (try go_wp2_with fail)
        all_goals go_meet
        all_goals exact ⟨rfl, rfl, rfl, ⟨blk_set Y4.out _ _⟩, ⟨blk_far X2.out N24.out _⟩, ⟨blk_far X17.out N417.out _⟩, ⟨below_set XB.out G4.out⟩⟩
      case rest =>
        clear B4' B2' B17' HB' c80 c81 KG B8
        obtain ⟨rfl, rfl, rfl, B4, B2, B17, HB⟩ := hcut
        have hr := HR.out
        clear HR
        by_cases h : a0.size < 2 + 6
        · rw [if_pos h] at hr
          simp only [Prod.mk.injEq] at hr
          obtain ⟨rfl, rfl, rfl⟩ := hr
          have e2 := HH.out
          rw [if_pos (by omega)] at e2
          simp only [Option.some.injEq, Prod.mk.injEq] at e2
          obtain ⟨rfl, rfl, rfl, rfl, rfl, rfl⟩ := e2
          clear h
          have z0 : wc.cell? ⟨g2, 0, none⟩ = some (.int .i64 0) := (blk_cell B2.out 0).trans rfl
          have zf0 := blk_frozen B2.out 0
          have z1 : wc.cell? ⟨g2, 1, none⟩ = some (.int .i64 0) := (blk_cell B2.out 1).trans rfl
          have zf1 := blk_frozen B2.out 1
          have z2 : wc.cell? ⟨g2, 2, none⟩ = some (.int .i64 0) := (blk_cell B2.out 2).trans rfl
          have zf2 := blk_frozen B2.out 2
          have z3 : wc.cell? ⟨g2, 3, none⟩ = some (.int .i64 0) := (blk_cell B2.out 3).trans rfl
          have zf3 := blk_frozen B2.out 3
          have z4 : wc.cell? ⟨g2, 4, none⟩ = some (.string (⟨#[]⟩ : ByteArray)) := (blk_cell B2.out 4).trans rfl
          have zf4 := blk_frozen B2.out 4
          go_wp2
          refine bodyPost_ret (results_ct rfl _ _ g2 26 #[.int .i64 0, .int .i64 0, .int .i64 0, .int .i64 0, .string (⟨#[]⟩ : ByteArray)] (0, 0) _ rfl (by (with_reducible repeat (first | refine blk_drewN ?_ _ | refine blk_drew ?_ | refine blk_alloc ?_ _)); refine blk_put (cs := #[.int .i64 0, .int .i64 0, .int .i64 0, .int .i64 0, .string (⟨#[]⟩ : ByteArray)]) ?_ 4 _ rfl; (with_reducible repeat (first | refine blk_drewN ?_ _ | refine blk_drew ?_ | refine blk_alloc ?_ _)); refine blk_put (cs := #[.int .i64 0, .int .i64 0, .int .i64 0, .int .i64 0, .string (⟨#[]⟩ : ByteArray)]) ?_ 3 _ rfl; (with_reducible repeat (first | refine blk_drewN ?_ _ | refine blk_drew ?_ | refine blk_alloc ?_ _)); refine blk_put (cs := #[.int .i64 0, .int .i64 0, .int .i64 0, .int .i64 0, .string (⟨#[]⟩ : ByteArray)]) ?_ 2 _ rfl; (with_reducible repeat (first | refine blk_drewN ?_ _ | refine blk_drew ?_ | refine blk_alloc ?_ _)); refine blk_put (cs := #[.int .i64 0, .int .i64 0, .int .i64 0, .int .i64 0, .string (⟨#[]⟩ : ByteArray)]) ?_ 1 _ rfl; (with_reducible repeat (first | refine blk_drewN ?_ _ | refine blk_drew ?_ | refine blk_alloc ?_ _)); refine blk_put (cs := #[.int .i64 0, .int .i64 0, .int .i64 0, .int .i64 0, .string (⟨#[]⟩ : ByteArray)]) ?_ 0 _ rfl; (with_reducible repeat (first | refine blk_drewN ?_ _ | refine blk_drew ?_ | refine blk_alloc ?_ _)); exact B2.out) Try.underlying26 rfl (by kernel_rfl)) rfl ?_
          exact ⟨rfl, by repeat (first | (with_reducible first | exact HB.out | apply below_alloc | apply pw_below_drewN | apply below_drew1 | refine below_set ?_ G2.out) | exact HB.out)⟩
        · rw [if_neg h] at hr
          simp only [Prod.mk.injEq] at hr
          obtain ⟨rfl, rfl, rfl⟩ := hr
          have HO' := Aside0.mk (show 8 ≤ a0.size by omega)
          clear h
          go_wp2_with fail
          go_roundw
          case rel => exact ⟨3, by omega, rfl, rfl, rfl, ⟨HO'.out⟩, ⟨by rw [B4.out]; simp [fst', offs]⟩, B2, B17, HB⟩
          case measure => simp [intOf]
    · -- round 3
      have E : code_Get.f a0 8 6 = some (if a0.size < 8 + 6 then (0, 0, 3) else (fld a0 8 6, 14, 0)) := code_Get_in (m := 8) (n := 6) hs HO.out (by omega) (by omega)
      have c170 : wr.cell? ⟨g17, 6, none⟩ = some (.pointer (some ⟨g4, 3, none⟩)) := (blk_cell B17.out 6).trans rfl
      have c171 : wr.cell? ⟨g17, 7, none⟩ = some (.int .i64 6) := (blk_cell B17.out 7).trans rfl
      simp only [offsI]
      obtain ⟨⟨r1_, r2_, r3_⟩, hr⟩ : ∃ r : Int × Int × Int, r = (if a0.size < 8 + 6 then (0, 0, 3) else (fld a0 8 6, 14, 0)) := ⟨_, rfl⟩
      rw [← hr] at E
      have HR := Aside0.mk hr
      have KG := Aside0.mk (fun w => code_Get.calls a0 8 6 _ _ _ w E)
      clear E hr
      go_wp2_with fail
      obtain ⟨w4, hw4⟩ : ∃ w4, w4 = wr.alloc (.cells #[.pointer (some ⟨g4, 3, none⟩), .int .i64 6] 58 (0, 0)) := ⟨_, rfl⟩
      rw [← hw4]
      obtain ⟨g8, hg8⟩ : ∃ g, g = wr.heap.size := ⟨_, rfl⟩
      rw [← hg8]
      have B8 := Aside0.mk (show w4.heap[g8]? = some (.cells #[.pointer (some ⟨g4, 3, none⟩), .int .i64 6] 58 (0, 0)) by rw [hw4, hg8]; exact blk_new wr _)
      have B4' := Aside0.mk (show w4.heap[g4]? = some (.cells #[.int .i64 (fst' a0 3 0 1), .int .i64 (fst' a0 3 1 1), .int .i64 (fst' a0 3 2 6), .int .i64 (fst' a0 3 3 6), .string (⟨#[]⟩ : ByteArray)] 26 (0, 0)) by rw [hw4]; exact blk_alloc B4.out _)
      have B2' := Aside0.mk (show w4.heap[g2]? = some (.cells #[.int .i64 0, .int .i64 0, .int .i64 0, .int .i64 0, .string (⟨#[]⟩ : ByteArray)] 26 (0, 0)) by rw [hw4]; exact blk_alloc B2.out _)
      have B17' := Aside0.mk (show w4.heap[g17]? = some (.cells #[.pointer (some ⟨g4, 0, none⟩), .int .i64 1, .pointer (some ⟨g4, 1, none⟩), .int .i64 1, .pointer (some ⟨g4, 2, none⟩), .int .i64 6, .pointer (some ⟨g4, 3, none⟩), .int .i64 6] 58 (0, 0)) by rw [hw4]; exact blk_alloc B17.out _)
      have HB' := Aside0.mk (show Below w.heap.size w w4 by rw [hw4]; exact below_alloc HB.out _)
      clear hw4 hg8 B4 B2 B17 HB c170 c171
      have c80 : w4.cell? ⟨g8, 0, none⟩ = some (.pointer (some ⟨g4, 3, none⟩)) := (blk_cell B8.out 0).trans rfl
      have c81 : w4.cell? ⟨g8, 1, none⟩ = some (.int .i64 6) := (blk_cell B8.out 1).trans rfl
      go_cut [5, 6, 19] from 19 to 39 (fun at_ bad i wx => at_ = .int .i64 r2_ ∧ bad = .int .i64 r3_ ∧ i = .int .i64 3 ∧ Aside0 (wx.heap[g4]? = some (.cells (#[.int .i64 (fst' a0 3 0 1), .int .i64 (fst' a0 3 1 1), .int .i64 (fst' a0 3 2 6), .int .i64 (fst' a0 3 3 6), .string (⟨#[]⟩ : ByteArray)].setIfInBounds 3 (.int .i64 r1_)) 26 (0, 0))) ∧ Aside0 (wx.heap[g2]? = some (.cells #[.int .i64 0, .int .i64 0, .int .i64 0, .int .i64 0, .string (⟨#[]⟩ : ByteArray)] 26 (0, 0))) ∧ Aside0 (wx.heap[g17]? = some (.cells #[.pointer (some ⟨g4, 0, none⟩), .int .i64 1, .pointer (some ⟨g4, 1, none⟩), .int .i64 1, .pointer (some ⟨g4, 2, none⟩), .int .i64 6, .pointer (some ⟨g4, 3, none⟩), .int .i64 6] 58 (0, 0))) ∧ Aside0 (Below w.heap.size w wx))
      case first =>
        go_region_with (go_at_call 41; refine (KG.out _).mono ?_; rintro e w5 ⟨rfl, hb⟩; have X8 := blk_below (by (with_reducible repeat (first | refine blk_drewN ?_ _ | refine blk_drew ?_ | refine blk_alloc ?_ _)); exact B8.out) hb; have X4 := blk_below (by (with_reducible repeat (first | refine blk_drewN ?_ _ | refine blk_drew ?_ | refine blk_alloc ?_ _)); exact B4'.out) hb; have X2 := Aside0.mk (blk_below (by (with_reducible repeat (first | refine blk_drewN ?_ _ | refine blk_drew ?_ | refine blk_alloc ?_ _)); exact B2'.out) hb); have X17 := Aside0.mk (blk_below (by (with_reducible repeat (first | refine blk_drewN ?_ _ | refine blk_drew ?_ | refine blk_alloc ?_ _)); exact B17'.out) hb); have XB := Aside0.mk (below_step (by repeat (first | (with_reducible first | exact HB'.out | apply below_alloc | apply pw_below_drewN | apply below_drew1) | exact HB'.out)) hb); have c90 : w5.cell? ⟨g8, 0, none⟩ = some (.pointer (some ⟨g4, 3, none⟩)) := (blk_cell X8 0).trans rfl; have c94 : w5.cell? ⟨g4, 3, none⟩ = _ := (blk_cell X4 3).trans rfl; have f94 := blk_frozen X4 3; have Y4 := Aside0.mk X4; clear X8 X4 hb)
        all_goals (try go_wp2_with fail)
        all_goals go_meet
        all_goals exact ⟨rfl, rfl, rfl, ⟨blk_set Y4.out _ _⟩, ⟨blk_far X2.out N24.out _⟩, ⟨blk_far X17.out N417.out _⟩, ⟨below_set XB.out G4.out⟩⟩
      case rest =>
        clear B4' B2' B17' HB' c80 c81 KG B8
        obtain ⟨rfl, rfl, rfl, B4, B2, B17, HB⟩ := hcut
        have hr := HR.out
        clear HR
        by_cases h : a0.size < 8 + 6
        · rw [if_pos h] at hr
          simp only [Prod.mk.injEq] at hr
          obtain ⟨rfl, rfl, rfl⟩ := hr
          have e2 := HH.out
          rw [if_pos (by omega)] at e2
          simp only [Option.some.injEq, Prod.mk.injEq] at e2
          obtain ⟨rfl, rfl, rfl, rfl, rfl, rfl⟩ := e2
          clear h
          have z0 : wc.cell? ⟨g2, 0, none⟩ = some (.int .i64 0) := (blk_cell B2.out 0).trans rfl
          have zf0 := blk_frozen B2.out 0
          have z1 : wc.cell? ⟨g2, 1, none⟩ = some (.int .i64 0) := (blk_cell B2.out 1).trans rfl
          have zf1 := blk_frozen B2.out 1
          have z2 : wc.cell? ⟨g2, 2, none⟩ = some (.int .i64 0) := (blk_cell B2.out 2).trans rfl
          have zf2 := blk_frozen B2.out 2
          have z3 : wc.cell? ⟨g2, 3, none⟩ = some (.int .i64 0) := (blk_cell B2.out 3).trans rfl
          have zf3 := blk_frozen B2.out 3
          have z4 : wc.cell? ⟨g2, 4, none⟩ = some (.string (⟨#[]⟩ : ByteArray)) := (blk_cell B2.out 4).trans rfl
          have zf4 := blk_frozen B2.out 4
          go_wp2
          refine bodyPost_ret (results_ct rfl _ _ g2 26 #[.int .i64 0, .int .i64 0, .int .i64 0, .int .i64 0, .string (⟨#[]⟩ : ByteArray)] (0, 0) _ rfl (by (with_reducible repeat (first | refine blk_drewN ?_ _ | refine blk_drew ?_ | refine blk_alloc ?_ _)); refine blk_put (cs := #[.int .i64 0, .int .i64 0, .int .i64 0, .int .i64 0, .string (⟨#[]⟩ : ByteArray)]) ?_ 4 _ rfl; (with_reducible repeat (first | refine blk_drewN ?_ _ | refine blk_drew ?_ | refine blk_alloc ?_ _)); refine blk_put (cs := #[.int .i64 0, .int .i64 0, .int .i64 0, .int .i64 0, .string (⟨#[]⟩ : ByteArray)]) ?_ 3 _ rfl; (with_reducible repeat (first | refine blk_drewN ?_ _ | refine blk_drew ?_ | refine blk_alloc ?_ _)); refine blk_put (cs := #[.int .i64 0, .int .i64 0, .int .i64 0, .int .i64 0, .string (⟨#[]⟩ : ByteArray)]) ?_ 2 _ rfl; (with_reducible repeat (first | refine blk_drewN ?_ _ | refine blk_drew ?_ | refine blk_alloc ?_ _)); refine blk_put (cs := #[.int .i64 0, .int .i64 0, .int .i64 0, .int .i64 0, .string (⟨#[]⟩ : ByteArray)]) ?_ 1 _ rfl; (with_reducible repeat (first | refine blk_drewN ?_ _ | refine blk_drew ?_ | refine blk_alloc ?_ _)); refine blk_put (cs := #[.int .i64 0, .int .i64 0, .int .i64 0, .int .i64 0, .string (⟨#[]⟩ : ByteArray)]) ?_ 0 _ rfl; (with_reducible repeat (first | refine blk_drewN ?_ _ | refine blk_drew ?_ | refine blk_alloc ?_ _)); exact B2.out) Try.underlying26 rfl (by kernel_rfl)) rfl ?_
          exact ⟨rfl, by repeat (first | (with_reducible first | exact HB.out | apply below_alloc | apply pw_below_drewN | apply below_drew1 | refine below_set ?_ G2.out) | exact HB.out)⟩
        · rw [if_neg h] at hr
          simp only [Prod.mk.injEq] at hr
          obtain ⟨rfl, rfl, rfl⟩ := hr
          have HO' := Aside0.mk (show 14 ≤ a0.size by omega)
          clear h
          go_wp2_with fail
          go_roundw
          case rel => exact ⟨4, by omega, rfl, rfl, rfl, ⟨HO'.out⟩, ⟨by rw [B4.out]; simp [fst', offs]⟩, B2, B17, HB⟩
          case measure => simp [intOf]
    · -- behind the loop
      have B4' := Aside0.mk (show wr.heap[g4]? = some (.cells #[.int .i64 (fld a0 0 1), .int .i64 (fld a0 1 1), .int .i64 (fld a0 2 6), .int .i64 (fld a0 8 6), .string (⟨#[]⟩ : ByteArray)] 26 (0, 0)) from B4.out)
      clear B4
      have ho : 14 ≤ a0.size := HO.out
      have e2 := HH.out
      clear HH
      rw [if_neg (by omega)] at e2
      have KC0 := fun w => code_Cut_calls a0 14 hs ho w
      obtain ⟨⟨t_, at_, bad_⟩, hc⟩ : ∃ c : ByteArray × Int × Int, cutOf a0 14 = c := ⟨_, rfl⟩
      rw [hc] at e2 KC0
      obtain ⟨v0, hv0⟩ : ∃ v, fld a0 0 1 = v := ⟨_, rfl⟩
      obtain ⟨v1, hv1⟩ : ∃ v, fld a0 1 1 = v := ⟨_, rfl⟩
      obtain ⟨v2, hv2⟩ : ∃ v, fld a0 2 6 = v := ⟨_, rfl⟩
      obtain ⟨v3, hv3⟩ : ∃ v, fld a0 8 6 = v := ⟨_, rfl⟩
      rw [hv0, hv1, hv2, hv3] at e2 B4'
      have B4 := B4'
      have KC := Aside0.mk KC0
      have hn1 := N24.out
      have hn2 := N24.out.symm
      clear hv0 hv1 hv2 hv3 B4' KC0 hc
      simp only [offsI]
      by_cases c1 : bad_ ≠ 0
      · rw [if_pos c1] at e2
        simp only [Option.some.injEq, Prod.mk.injEq] at e2
        obtain ⟨rfl, rfl, rfl, rfl, rfl, rfl⟩ := e2
        have c1b : (bad_ != 0) = true := bne_iff_ne.mpr c1
        clear c1
        go_wp2_with (go_at_call 42; refine (KC.out _).mono ?_; rintro e w6 ⟨rfl, hb⟩; have X4 := Aside0.mk (blk_below (by (with_reducible repeat (first | refine blk_drewN ?_ _ | refine blk_drew ?_ | refine blk_alloc ?_ _)); exact B4.out) hb); have X2 := Aside0.mk (blk_below (by (with_reducible repeat (first | refine blk_drewN ?_ _ | refine blk_drew ?_ | refine blk_alloc ?_ _)); exact B2.out) hb); have XB := Aside0.mk (below_step (by repeat (first | (with_reducible first | exact HB.out | apply below_alloc | apply pw_below_drewN | apply below_drew1 | refine below_set ?_ G2.out | refine below_set ?_ G4.out) | exact HB.out)) hb); clear hb; clear B4; clear B2; clear HB; have B4 := X4; have B2 := X2; have HB := XB; clear X4 X2 XB; have z0 : w6.cell? ⟨g2, 0, none⟩ = some (.int .i64 0) := (blk_cell B2.out 0).trans rfl; have zf0 := blk_frozen B2.out 0; have z1 : w6.cell? ⟨g2, 1, none⟩ = some (.int .i64 0) := (blk_cell B2.out 1).trans rfl; have zf1 := blk_frozen B2.out 1; have z2 : w6.cell? ⟨g2, 2, none⟩ = some (.int .i64 0) := (blk_cell B2.out 2).trans rfl; have zf2 := blk_frozen B2.out 2; have z3 : w6.cell? ⟨g2, 3, none⟩ = some (.int .i64 0) := (blk_cell B2.out 3).trans rfl; have zf3 := blk_frozen B2.out 3; have z4 : w6.cell? ⟨g2, 4, none⟩ = some (.string (⟨#[]⟩ : ByteArray)) := (blk_cell B2.out 4).trans rfl; have zf4 := blk_frozen B2.out 4; have y0 : w6.cell? ⟨g4, 0, none⟩ = some (.int .i64 v0) := (blk_cell B4.out 0).trans rfl; have yf0 := blk_frozen B4.out 0; have y1 : w6.cell? ⟨g4, 1, none⟩ = some (.int .i64 v1) := (blk_cell B4.out 1).trans rfl; have yf1 := blk_frozen B4.out 1; have y2 : w6.cell? ⟨g4, 2, none⟩ = some (.int .i64 v2) := (blk_cell B4.out 2).trans rfl; have yf2 := blk_frozen B4.out 2; have y3 : w6.cell? ⟨g4, 3, none⟩ = some (.int .i64 v3) := (blk_cell B4.out 3).trans rfl; have yf3 := blk_frozen B4.out 3; have y4 : w6.cell? ⟨g4, 4, none⟩ = some (.string (⟨#[]⟩ : ByteArray)) := (blk_cell B4.out 4).trans rfl; have yf4 := blk_frozen B4.out 4)
        refine bodyPost_ret (results_ct rfl _ _ g2 26 #[.int .i64 0, .int .i64 0, .int .i64 0, .int .i64 0, .string (⟨#[]⟩ : ByteArray)] (0, 0) _ rfl (by (with_reducible repeat (first | refine blk_drewN ?_ _ | refine blk_drew ?_ | refine blk_alloc ?_ _)); refine blk_put (cs := #[.int .i64 0, .int .i64 0, .int .i64 0, .int .i64 0, .string (⟨#[]⟩ : ByteArray)]) ?_ 4 _ rfl; (with_reducible repeat (first | refine blk_drewN ?_ _ | refine blk_drew ?_ | refine blk_alloc ?_ _)); refine blk_put (cs := #[.int .i64 0, .int .i64 0, .int .i64 0, .int .i64 0, .string (⟨#[]⟩ : ByteArray)]) ?_ 3 _ rfl; (with_reducible repeat (first | refine blk_drewN ?_ _ | refine blk_drew ?_ | refine blk_alloc ?_ _)); refine blk_put (cs := #[.int .i64 0, .int .i64 0, .int .i64 0, .int .i64 0, .string (⟨#[]⟩ : ByteArray)]) ?_ 2 _ rfl; (with_reducible repeat (first | refine blk_drewN ?_ _ | refine blk_drew ?_ | refine blk_alloc ?_ _)); refine blk_put (cs := #[.int .i64 0, .int .i64 0, .int .i64 0, .int .i64 0, .string (⟨#[]⟩ : ByteArray)]) ?_ 1 _ rfl; (with_reducible repeat (first | refine blk_drewN ?_ _ | refine blk_drew ?_ | refine blk_alloc ?_ _)); refine blk_put (cs := #[.int .i64 0, .int .i64 0, .int .i64 0, .int .i64 0, .string (⟨#[]⟩ : ByteArray)]) ?_ 0 _ rfl; (with_reducible repeat (first | refine blk_drewN ?_ _ | refine blk_drew ?_ | refine blk_alloc ?_ _)); refine blk_far ?_ N24.out _; (with_reducible repeat (first | refine blk_drewN ?_ _ | refine blk_drew ?_ | refine blk_alloc ?_ _)); exact B2.out) Try.underlying26 rfl (by kernel_rfl)) rfl ?_
        exact ⟨rfl, by repeat (first | (with_reducible first | exact HB.out | apply below_alloc | apply pw_below_drewN | apply below_drew1 | refine below_set ?_ G2.out | refine below_set ?_ G4.out) | exact HB.out)⟩
      · rw [if_neg c1] at e2
        obtain rfl : bad_ = 0 := by omega
        clear c1
        by_cases c2 : at_ ≠ a0.size
        · rw [if_pos c2] at e2
          simp only [Option.some.injEq, Prod.mk.injEq] at e2
          obtain ⟨rfl, rfl, rfl, rfl, rfl, rfl⟩ := e2
          have c2b : (at_ != (a0.size : Int)) = true := bne_iff_ne.mpr c2
          clear c2
          go_wp2_with (go_at_call 42; refine (KC.out _).mono ?_; rintro e w6 ⟨rfl, hb⟩; have X4 := Aside0.mk (blk_below (by (with_reducible repeat (first | refine blk_drewN ?_ _ | refine blk_drew ?_ | refine blk_alloc ?_ _)); exact B4.out) hb); have X2 := Aside0.mk (blk_below (by (with_reducible repeat (first | refine blk_drewN ?_ _ | refine blk_drew ?_ | refine blk_alloc ?_ _)); exact B2.out) hb); have XB := Aside0.mk (below_step (by repeat (first | (with_reducible first | exact HB.out | apply below_alloc | apply pw_below_drewN | apply below_drew1 | refine below_set ?_ G2.out | refine below_set ?_ G4.out) | exact HB.out)) hb); clear hb; clear B4; clear B2; clear HB; have B4 := X4; have B2 := X2; have HB := XB; clear X4 X2 XB; have z0 : w6.cell? ⟨g2, 0, none⟩ = some (.int .i64 0) := (blk_cell B2.out 0).trans rfl; have zf0 := blk_frozen B2.out 0; have z1 : w6.cell? ⟨g2, 1, none⟩ = some (.int .i64 0) := (blk_cell B2.out 1).trans rfl; have zf1 := blk_frozen B2.out 1; have z2 : w6.cell? ⟨g2, 2, none⟩ = some (.int .i64 0) := (blk_cell B2.out 2).trans rfl; have zf2 := blk_frozen B2.out 2; have z3 : w6.cell? ⟨g2, 3, none⟩ = some (.int .i64 0) := (blk_cell B2.out 3).trans rfl; have zf3 := blk_frozen B2.out 3; have z4 : w6.cell? ⟨g2, 4, none⟩ = some (.string (⟨#[]⟩ : ByteArray)) := (blk_cell B2.out 4).trans rfl; have zf4 := blk_frozen B2.out 4; have y0 : w6.cell? ⟨g4, 0, none⟩ = some (.int .i64 v0) := (blk_cell B4.out 0).trans rfl; have yf0 := blk_frozen B4.out 0; have y1 : w6.cell? ⟨g4, 1, none⟩ = some (.int .i64 v1) := (blk_cell B4.out 1).trans rfl; have yf1 := blk_frozen B4.out 1; have y2 : w6.cell? ⟨g4, 2, none⟩ = some (.int .i64 v2) := (blk_cell B4.out 2).trans rfl; have yf2 := blk_frozen B4.out 2; have y3 : w6.cell? ⟨g4, 3, none⟩ = some (.int .i64 v3) := (blk_cell B4.out 3).trans rfl; have yf3 := blk_frozen B4.out 3; have y4 : w6.cell? ⟨g4, 4, none⟩ = some (.string (⟨#[]⟩ : ByteArray)) := (blk_cell B4.out 4).trans rfl; have yf4 := blk_frozen B4.out 4)
          refine bodyPost_ret (results_ct rfl _ _ g2 26 #[.int .i64 0, .int .i64 0, .int .i64 0, .int .i64 0, .string (⟨#[]⟩ : ByteArray)] (0, 0) _ rfl (by (with_reducible repeat (first | refine blk_drewN ?_ _ | refine blk_drew ?_ | refine blk_alloc ?_ _)); refine blk_put (cs := #[.int .i64 0, .int .i64 0, .int .i64 0, .int .i64 0, .string (⟨#[]⟩ : ByteArray)]) ?_ 4 _ rfl; (with_reducible repeat (first | refine blk_drewN ?_ _ | refine blk_drew ?_ | refine blk_alloc ?_ _)); refine blk_put (cs := #[.int .i64 0, .int .i64 0, .int .i64 0, .int .i64 0, .string (⟨#[]⟩ : ByteArray)]) ?_ 3 _ rfl; (with_reducible repeat (first | refine blk_drewN ?_ _ | refine blk_drew ?_ | refine blk_alloc ?_ _)); refine blk_put (cs := #[.int .i64 0, .int .i64 0, .int .i64 0, .int .i64 0, .string (⟨#[]⟩ : ByteArray)]) ?_ 2 _ rfl; (with_reducible repeat (first | refine blk_drewN ?_ _ | refine blk_drew ?_ | refine blk_alloc ?_ _)); refine blk_put (cs := #[.int .i64 0, .int .i64 0, .int .i64 0, .int .i64 0, .string (⟨#[]⟩ : ByteArray)]) ?_ 1 _ rfl; (with_reducible repeat (first | refine blk_drewN ?_ _ | refine blk_drew ?_ | refine blk_alloc ?_ _)); refine blk_put (cs := #[.int .i64 0, .int .i64 0, .int .i64 0, .int .i64 0, .string (⟨#[]⟩ : ByteArray)]) ?_ 0 _ rfl; (with_reducible repeat (first | refine blk_drewN ?_ _ | refine blk_drew ?_ | refine blk_alloc ?_ _)); refine blk_far ?_ N24.out _; (with_reducible repeat (first | refine blk_drewN ?_ _ | refine blk_drew ?_ | refine blk_alloc ?_ _)); exact B2.out) Try.underlying26 rfl (by kernel_rfl)) rfl ?_
          exact ⟨rfl, by repeat (first | (with_reducible first | exact HB.out | apply below_alloc | apply pw_below_drewN | apply below_drew1 | refine below_set ?_ G2.out | refine below_set ?_ G4.out) | exact HB.out)⟩
        · rw [if_neg c2] at e2
          obtain rfl : at_ = a0.size := by omega
          clear c2
          obtain ⟨b, hb, e3⟩ := Option.bind_eq_some_iff.1 e2
          have KS := Aside0.mk (fun w => Z.task_stands.calls _ _ _ _ _ _ _ w hb)
          clear hb e2
          cases b
          · simp only [Bool.false_eq_true, if_false, Option.some.injEq, Prod.mk.injEq] at e3
            obtain ⟨rfl, rfl, rfl, rfl, rfl, rfl⟩ := e3
            go_wp2_with (first | (go_at_call 42; refine (KC.out _).mono ?_; rintro e w6 ⟨rfl, hb⟩; have X4 := Aside0.mk (blk_below (by (with_reducible repeat (first | refine blk_drewN ?_ _ | refine blk_drew ?_ | refine blk_alloc ?_ _)); exact B4.out) hb); have X2 := Aside0.mk (blk_below (by (with_reducible repeat (first | refine blk_drewN ?_ _ | refine blk_drew ?_ | refine blk_alloc ?_ _)); exact B2.out) hb); have XB := Aside0.mk (below_step (by repeat (first | (with_reducible first | exact HB.out | apply below_alloc | apply pw_below_drewN | apply below_drew1 | refine below_set ?_ G2.out | refine below_set ?_ G4.out) | exact HB.out)) hb); clear hb; clear B4; clear B2; clear HB; have B4 := X4; have B2 := X2; have HB := XB; clear X4 X2 XB; have z0 : w6.cell? ⟨g2, 0, none⟩ = some (.int .i64 0) := (blk_cell B2.out 0).trans rfl; have zf0 := blk_frozen B2.out 0; have z1 : w6.cell? ⟨g2, 1, none⟩ = some (.int .i64 0) := (blk_cell B2.out 1).trans rfl; have zf1 := blk_frozen B2.out 1; have z2 : w6.cell? ⟨g2, 2, none⟩ = some (.int .i64 0) := (blk_cell B2.out 2).trans rfl; have zf2 := blk_frozen B2.out 2; have z3 : w6.cell? ⟨g2, 3, none⟩ = some (.int .i64 0) := (blk_cell B2.out 3).trans rfl; have zf3 := blk_frozen B2.out 3; have z4 : w6.cell? ⟨g2, 4, none⟩ = some (.string (⟨#[]⟩ : ByteArray)) := (blk_cell B2.out 4).trans rfl; have zf4 := blk_frozen B2.out 4; have y0 : w6.cell? ⟨g4, 0, none⟩ = some (.int .i64 v0) := (blk_cell B4.out 0).trans rfl; have yf0 := blk_frozen B4.out 0; have y1 : w6.cell? ⟨g4, 1, none⟩ = some (.int .i64 v1) := (blk_cell B4.out 1).trans rfl; have yf1 := blk_frozen B4.out 1; have y2 : w6.cell? ⟨g4, 2, none⟩ = some (.int .i64 v2) := (blk_cell B4.out 2).trans rfl; have yf2 := blk_frozen B4.out 2; have y3 : w6.cell? ⟨g4, 3, none⟩ = some (.int .i64 v3) := (blk_cell B4.out 3).trans rfl; have yf3 := blk_frozen B4.out 3; have y4 : w6.cell? ⟨g4, 4, none⟩ = some (.string (⟨#[]⟩ : ByteArray)) := (blk_cell B4.out 4).trans rfl; have yf4 := blk_frozen B4.out 4) | (go_at_call 37; refine (KS.out _).mono ?_; rintro e w7 ⟨rfl, hb⟩; have X2 := Aside0.mk (blk_below (o := .cells #[.int .i64 0, .int .i64 0, .int .i64 0, .int .i64 0, .string (⟨#[]⟩ : ByteArray)] 26 (0, 0)) (by (with_reducible repeat (first | refine blk_drewN ?_ _ | refine blk_drew ?_ | refine blk_alloc ?_ _)); refine blk_far ?_ N24.out _; (with_reducible repeat (first | refine blk_drewN ?_ _ | refine blk_drew ?_ | refine blk_alloc ?_ _)); exact B2.out) hb); have X4 := Aside0.mk (blk_below (o := .cells #[.int .i64 v0, .int .i64 v1, .int .i64 v2, .int .i64 v3, .string t_] 26 (0, 0)) (by (with_reducible repeat (first | refine blk_drewN ?_ _ | refine blk_drew ?_ | refine blk_alloc ?_ _)); refine blk_put (cs := #[.int .i64 v0, .int .i64 v1, .int .i64 v2, .int .i64 v3, .string (⟨#[]⟩ : ByteArray)]) (cs' := #[.int .i64 v0, .int .i64 v1, .int .i64 v2, .int .i64 v3, .string t_]) ?_ 4 _ rfl; (with_reducible repeat (first | refine blk_drewN ?_ _ | refine blk_drew ?_ | refine blk_alloc ?_ _)); exact B4.out) hb); have XB := Aside0.mk (below_step (by repeat (first | (with_reducible first | exact HB.out | apply below_alloc | apply pw_below_drewN | apply below_drew1 | refine below_set ?_ G2.out | refine below_set ?_ G4.out) | exact HB.out)) hb); clear hb; clear B4; clear B2; clear HB; have B4 := X4; have B2 := X2; have HB := XB; clear X4 X2 XB; have z0 : w7.cell? ⟨g2, 0, none⟩ = some (.int .i64 0) := (blk_cell B2.out 0).trans rfl; have zf0 := blk_frozen B2.out 0; have z1 : w7.cell? ⟨g2, 1, none⟩ = some (.int .i64 0) := (blk_cell B2.out 1).trans rfl; have zf1 := blk_frozen B2.out 1; have z2 : w7.cell? ⟨g2, 2, none⟩ = some (.int .i64 0) := (blk_cell B2.out 2).trans rfl; have zf2 := blk_frozen B2.out 2; have z3 : w7.cell? ⟨g2, 3, none⟩ = some (.int .i64 0) := (blk_cell B2.out 3).trans rfl; have zf3 := blk_frozen B2.out 3; have z4 : w7.cell? ⟨g2, 4, none⟩ = some (.string (⟨#[]⟩ : ByteArray)) := (blk_cell B2.out 4).trans rfl; have zf4 := blk_frozen B2.out 4; have y0 : w7.cell? ⟨g4, 0, none⟩ = some (.int .i64 v0) := (blk_cell B4.out 0).trans rfl; have yf0 := blk_frozen B4.out 0; have y1 : w7.cell? ⟨g4, 1, none⟩ = some (.int .i64 v1) := (blk_cell B4.out 1).trans rfl; have yf1 := blk_frozen B4.out 1; have y2 : w7.cell? ⟨g4, 2, none⟩ = some (.int .i64 v2) := (blk_cell B4.out 2).trans rfl; have yf2 := blk_frozen B4.out 2; have y3 : w7.cell? ⟨g4, 3, none⟩ = some (.int .i64 v3) := (blk_cell B4.out 3).trans rfl; have yf3 := blk_frozen B4.out 3; have y4 : w7.cell? ⟨g4, 4, none⟩ = some (.string t_) := (blk_cell B4.out 4).trans rfl; have yf4 := blk_frozen B4.out 4))
            refine bodyPost_ret (results_ct rfl _ _ g2 26 #[.int .i64 0, .int .i64 0, .int .i64 0, .int .i64 0, .string (⟨#[]⟩ : ByteArray)] (0, 0) _ rfl (by (with_reducible repeat (first | refine blk_drewN ?_ _ | refine blk_drew ?_ | refine blk_alloc ?_ _)); refine blk_put (cs := #[.int .i64 0, .int .i64 0, .int .i64 0, .int .i64 0, .string (⟨#[]⟩ : ByteArray)]) ?_ 4 _ rfl; (with_reducible repeat (first | refine blk_drewN ?_ _ | refine blk_drew ?_ | refine blk_alloc ?_ _)); refine blk_put (cs := #[.int .i64 0, .int .i64 0, .int .i64 0, .int .i64 0, .string (⟨#[]⟩ : ByteArray)]) ?_ 3 _ rfl; (with_reducible repeat (first | refine blk_drewN ?_ _ | refine blk_drew ?_ | refine blk_alloc ?_ _)); refine blk_put (cs := #[.int .i64 0, .int .i64 0, .int .i64 0, .int .i64 0, .string (⟨#[]⟩ : ByteArray)]) ?_ 2 _ rfl; (with_reducible repeat (first | refine blk_drewN ?_ _ | refine blk_drew ?_ | refine blk_alloc ?_ _)); refine blk_put (cs := #[.int .i64 0, .int .i64 0, .int .i64 0, .int .i64 0, .string (⟨#[]⟩ : ByteArray)]) ?_ 1 _ rfl; (with_reducible repeat (first | refine blk_drewN ?_ _ | refine blk_drew ?_ | refine blk_alloc ?_ _)); refine blk_put (cs := #[.int .i64 0, .int .i64 0, .int .i64 0, .int .i64 0, .string (⟨#[]⟩ : ByteArray)]) ?_ 0 _ rfl; (with_reducible repeat (first | refine blk_drewN ?_ _ | refine blk_drew ?_ | refine blk_alloc ?_ _)); exact B2.out) Try.underlying26 rfl (by kernel_rfl)) rfl ?_
            exact ⟨rfl, by repeat (first | (with_reducible first | exact HB.out | apply below_alloc | apply pw_below_drewN | apply below_drew1 | refine below_set ?_ G2.out | refine below_set ?_ G4.out) | exact HB.out)⟩
          · simp only [if_true, Option.some.injEq, Prod.mk.injEq] at e3
            obtain ⟨rfl, rfl, rfl, rfl, rfl, rfl⟩ := e3
            go_wp2_with (first | (go_at_call 42; refine (KC.out _).mono ?_; rintro e w6 ⟨rfl, hb⟩; have X4 := Aside0.mk (blk_below (by (with_reducible repeat (first | refine blk_drewN ?_ _ | refine blk_drew ?_ | refine blk_alloc ?_ _)); exact B4.out) hb); have X2 := Aside0.mk (blk_below (o := .cells #[.int .i64 0, .int .i64 0, .int .i64 0, .int .i64 0, .string (⟨#[]⟩ : ByteArray)] 26 (0, 0)) (by (with_reducible repeat (first | refine blk_drewN ?_ _ | refine blk_drew ?_ | refine blk_alloc ?_ _)); exact B2.out) hb); have XB := Aside0.mk (below_step (by repeat (first | (with_reducible first | exact HB.out | apply below_alloc | apply pw_below_drewN | apply below_drew1 | refine below_set ?_ G2.out | refine below_set ?_ G4.out) | exact HB.out)) hb); clear hb; clear B4; clear B2; clear HB; have B4 := X4; have B2 := X2; have HB := XB; clear X4 X2 XB; have z0 : w6.cell? ⟨g2, 0, none⟩ = some (.int .i64 0) := (blk_cell B2.out 0).trans rfl; have zf0 := blk_frozen B2.out 0; have z1 : w6.cell? ⟨g2, 1, none⟩ = some (.int .i64 0) := (blk_cell B2.out 1).trans rfl; have zf1 := blk_frozen B2.out 1; have z2 : w6.cell? ⟨g2, 2, none⟩ = some (.int .i64 0) := (blk_cell B2.out 2).trans rfl; have zf2 := blk_frozen B2.out 2; have z3 : w6.cell? ⟨g2, 3, none⟩ = some (.int .i64 0) := (blk_cell B2.out 3).trans rfl; have zf3 := blk_frozen B2.out 3; have z4 : w6.cell? ⟨g2, 4, none⟩ = some (.string (⟨#[]⟩ : ByteArray)) := (blk_cell B2.out 4).trans rfl; have zf4 := blk_frozen B2.out 4; have y0 : w6.cell? ⟨g4, 0, none⟩ = some (.int .i64 v0) := (blk_cell B4.out 0).trans rfl; have yf0 := blk_frozen B4.out 0; have y1 : w6.cell? ⟨g4, 1, none⟩ = some (.int .i64 v1) := (blk_cell B4.out 1).trans rfl; have yf1 := blk_frozen B4.out 1; have y2 : w6.cell? ⟨g4, 2, none⟩ = some (.int .i64 v2) := (blk_cell B4.out 2).trans rfl; have yf2 := blk_frozen B4.out 2; have y3 : w6.cell? ⟨g4, 3, none⟩ = some (.int .i64 v3) := (blk_cell B4.out 3).trans rfl; have yf3 := blk_frozen B4.out 3; have y4 : w6.cell? ⟨g4, 4, none⟩ = some (.string (⟨#[]⟩ : ByteArray)) := (blk_cell B4.out 4).trans rfl; have yf4 := blk_frozen B4.out 4) | (go_at_call 37; refine (KS.out _).mono ?_; rintro e w7 ⟨rfl, hb⟩; have X2 := Aside0.mk (blk_below (o := .cells #[.int .i64 0, .int .i64 0, .int .i64 0, .int .i64 0, .string (⟨#[]⟩ : ByteArray)] 26 (0, 0)) (by (with_reducible repeat (first | refine blk_drewN ?_ _ | refine blk_drew ?_ | refine blk_alloc ?_ _)); refine blk_far ?_ N24.out _; (with_reducible repeat (first | refine blk_drewN ?_ _ | refine blk_drew ?_ | refine blk_alloc ?_ _)); exact B2.out) hb); have X4 := Aside0.mk (blk_below (o := .cells #[.int .i64 v0, .int .i64 v1, .int .i64 v2, .int .i64 v3, .string t_] 26 (0, 0)) (by (with_reducible repeat (first | refine blk_drewN ?_ _ | refine blk_drew ?_ | refine blk_alloc ?_ _)); refine blk_put (cs := #[.int .i64 v0, .int .i64 v1, .int .i64 v2, .int .i64 v3, .string (⟨#[]⟩ : ByteArray)]) (cs' := #[.int .i64 v0, .int .i64 v1, .int .i64 v2, .int .i64 v3, .string t_]) ?_ 4 _ rfl; (with_reducible repeat (first | refine blk_drewN ?_ _ | refine blk_drew ?_ | refine blk_alloc ?_ _)); exact B4.out) hb); have XB := Aside0.mk (below_step (by repeat (first | (with_reducible first | exact HB.out | apply below_alloc | apply pw_below_drewN | apply below_drew1 | refine below_set ?_ G2.out | refine below_set ?_ G4.out) | exact HB.out)) hb); clear hb; clear B4; clear B2; clear HB; have B4 := X4; have B2 := X2; have HB := XB; clear X4 X2 XB; have z0 : w7.cell? ⟨g2, 0, none⟩ = some (.int .i64 0) := (blk_cell B2.out 0).trans rfl; have zf0 := blk_frozen B2.out 0; have z1 : w7.cell? ⟨g2, 1, none⟩ = some (.int .i64 0) := (blk_cell B2.out 1).trans rfl; have zf1 := blk_frozen B2.out 1; have z2 : w7.cell? ⟨g2, 2, none⟩ = some (.int .i64 0) := (blk_cell B2.out 2).trans rfl; have zf2 := blk_frozen B2.out 2; have z3 : w7.cell? ⟨g2, 3, none⟩ = some (.int .i64 0) := (blk_cell B2.out 3).trans rfl; have zf3 := blk_frozen B2.out 3; have z4 : w7.cell? ⟨g2, 4, none⟩ = some (.string (⟨#[]⟩ : ByteArray)) := (blk_cell B2.out 4).trans rfl; have zf4 := blk_frozen B2.out 4; have y0 : w7.cell? ⟨g4, 0, none⟩ = some (.int .i64 v0) := (blk_cell B4.out 0).trans rfl; have yf0 := blk_frozen B4.out 0; have y1 : w7.cell? ⟨g4, 1, none⟩ = some (.int .i64 v1) := (blk_cell B4.out 1).trans rfl; have yf1 := blk_frozen B4.out 1; have y2 : w7.cell? ⟨g4, 2, none⟩ = some (.int .i64 v2) := (blk_cell B4.out 2).trans rfl; have yf2 := blk_frozen B4.out 2; have y3 : w7.cell? ⟨g4, 3, none⟩ = some (.int .i64 v3) := (blk_cell B4.out 3).trans rfl; have yf3 := blk_frozen B4.out 3; have y4 : w7.cell? ⟨g4, 4, none⟩ = some (.string t_) := (blk_cell B4.out 4).trans rfl; have yf4 := blk_frozen B4.out 4))
            refine bodyPost_ret (results_ct rfl _ _ g2 26 #[.int .i64 v0, .int .i64 v1, .int .i64 v2, .int .i64 v3, .string t_] (0, 0) _ rfl (by (with_reducible repeat (first | refine blk_drewN ?_ _ | refine blk_drew ?_ | refine blk_alloc ?_ _)); refine blk_put (cs := #[.int .i64 v0, .int .i64 v1, .int .i64 v2, .int .i64 v3, .string (⟨#[]⟩ : ByteArray)]) ?_ 4 _ rfl; (with_reducible repeat (first | refine blk_drewN ?_ _ | refine blk_drew ?_ | refine blk_alloc ?_ _)); refine blk_put (cs := #[.int .i64 v0, .int .i64 v1, .int .i64 v2, .int .i64 0, .string (⟨#[]⟩ : ByteArray)]) ?_ 3 _ rfl; (with_reducible repeat (first | refine blk_drewN ?_ _ | refine blk_drew ?_ | refine blk_alloc ?_ _)); refine blk_put (cs := #[.int .i64 v0, .int .i64 v1, .int .i64 0, .int .i64 0, .string (⟨#[]⟩ : ByteArray)]) ?_ 2 _ rfl; (with_reducible repeat (first | refine blk_drewN ?_ _ | refine blk_drew ?_ | refine blk_alloc ?_ _)); refine blk_put (cs := #[.int .i64 v0, .int .i64 0, .int .i64 0, .int .i64 0, .string (⟨#[]⟩ : ByteArray)]) ?_ 1 _ rfl; (with_reducible repeat (first | refine blk_drewN ?_ _ | refine blk_drew ?_ | refine blk_alloc ?_ _)); refine blk_put (cs := #[.int .i64 0, .int .i64 0, .int .i64 0, .int .i64 0, .string (⟨#[]⟩ : ByteArray)]) ?_ 0 _ rfl; (with_reducible repeat (first | refine blk_drewN ?_ _ | refine blk_drew ?_ | refine blk_alloc ?_ _)); exact B2.out) Try.underlying26 rfl (by kernel_rfl)) rfl ?_
            exact ⟨rfl, by repeat (first | (with_reducible first | exact HB.out | apply below_alloc | apply pw_below_drewN | apply below_drew1 | refine below_set ?_ G2.out | refine below_set ?_ G4.out) | exact HB.out)⟩
end Go.Proofs.Ytmbpnggldpgcdaa
