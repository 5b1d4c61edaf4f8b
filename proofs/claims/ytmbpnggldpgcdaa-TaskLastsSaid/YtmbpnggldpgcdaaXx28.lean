-- laid by a program of this session (wip/tools/xprint.py), function by function; Lean checks it
import Derived.Test.YtmbpnggldpgcdaaXx0
import Derived.Test.YtmbpnggldpgcdaaXx1
import Derived.Test.YtmbpnggldpgcdaaXx3
import Derived.Test.YtmbpnggldpgcdaaXx7
import Derived.Test.YtmbpnggldpgcdaaXx10
import Derived.Test.YtmbpnggldpgcdaaXx12
import Derived.Test.YtmbpnggldpgcdaaXx13
import Derived.Test.YtmbpnggldpgcdaaXx15
import Derived.Test.YtmbpnggldpgcdaaXx20
import Derived.Test.YtmbpnggldpgcdaaXx23
import Derived.Test.YtmbpnggldpgcdaaXx26
namespace Go.Proofs.Ytmbpnggldpgcdaa.X
open Go.RowKit Go.Proofs.YtmbpnggldpgcdaaW.PrintWords Go.Proofs.YtmbpnggldpgcdaaW.PrintLast Go.Proofs.YtmbpnggldpgcdaaW.PrintMore
attribute [local go_sem] max2_int min2_int max_two min_two max_three min_three max_four min_four   -- for this text's walks alone
set_option linter.unusedVariables false
set_option linter.unusedSimpArgs false

attribute [local go_sem high] eqA26
/-! ### penelopelaw18_TaskLasts: function 7 -/
mutual
def penelopelaw18_TaskLasts.l0 : Nat → Int → Int → List (S42) → Int → Int → List Int → Int → Int → Int → Int → Int → Int → Int → ByteArray → Option (Bool)
  | 0, _, _, _, _, _, _, _, _, _, _, _, _, _, _ => none
  | k + 1, x6, x7, x20, x21, x22, x337000, x337001, x337002, x337003, x343000, x343001, x343002, x343003, x343004 => if x22 < x21 then (if 0 ≤ x22 then (if x22 < (x20.length : Int) then (if x22 ≥ 60 then ((penelopelaw18_alive.f).bind fun t346 => (some t346)) else (if ((rd_T42 x20 x22).f0) = 0 then ((task_Lease.f k x337000 x337001 x337002 x337003 x343000 x343001 x343002 x343003 x343004 (mn (wrap64 (x6 + (mn (mx ((rd_T42 x20 x22).f1) 0) 2097152))) 1099511627776) (wrap64 (x22 + 1))).bind fun bt348 => (if bt348.2.2.2.2.2 = 0 then (penelopelaw18_TaskLasts.j1 k (mn (wrap64 (x6 + (mn (mx ((rd_T42 x20 x22).f1) 0) 2097152))) 1099511627776) (wrap64 (x7 + 1)) bt348.2.2.2.2.2 x20 x21 x22 x337000 x337001 x337002 x337003 x343000 x343001 x343002 x343003 x343004 bt348.1 bt348.2.1 bt348.2.2.1 bt348.2.2.2.1 bt348.2.2.2.2.1) else (penelopelaw18_TaskLasts.j1 k (mn (wrap64 (x6 + (mn (mx ((rd_T42 x20 x22).f1) 0) 2097152))) 1099511627776) x7 bt348.2.2.2.2.2 x20 x21 x22 x337000 x337001 x337002 x337003 x343000 x343001 x343002 x343003 x343004 bt348.1 bt348.2.1 bt348.2.2.1 bt348.2.2.2.1 bt348.2.2.2.2.1))) else (if ((rd_T42 x20 x22).f0) = 1 then ((task_Beat.f k x337000 x337001 x337002 x337003 x343000 x343001 x343002 x343003 x343004 (mn (wrap64 (x6 + (mn (mx ((rd_T42 x20 x22).f1) 0) 2097152))) 1099511627776)).bind fun bt354 => (penelopelaw18_TaskLasts.j1 k (mn (wrap64 (x6 + (mn (mx ((rd_T42 x20 x22).f1) 0) 2097152))) 1099511627776) x7 bt354.2.2.2.2.2 x20 x21 x22 x337000 x337001 x337002 x337003 x343000 x343001 x343002 x343003 x343004 bt354.1 bt354.2.1 bt354.2.2.1 bt354.2.2.2.1 bt354.2.2.2.2.1)) else (if ((rd_T42 x20 x22).f0) = 2 then ((task_Done.f x337000 x337001 x337002 x337003 x343000 x343001 x343002 x343003 x343004 (⟨#[114]⟩ : ByteArray)).bind fun bt360 => (penelopelaw18_TaskLasts.j1 k (mn (wrap64 (x6 + (mn (mx ((rd_T42 x20 x22).f1) 0) 2097152))) 1099511627776) x7 bt360.2.2.2.2.2 x20 x21 x22 x337000 x337001 x337002 x337003 x343000 x343001 x343002 x343003 x343004 bt360.1 bt360.2.1 bt360.2.2.1 bt360.2.2.2.1 bt360.2.2.2.2.1)) else (if ((rd_T42 x20 x22).f0) = 3 then ((task_Fail.f k x337000 x337001 x337002 x337003 x343000 x343001 x343002 x343003 x343004 (mn (wrap64 (x6 + (mn (mx ((rd_T42 x20 x22).f1) 0) 2097152))) 1099511627776)).bind fun bt366 => (penelopelaw18_TaskLasts.j1 k (mn (wrap64 (x6 + (mn (mx ((rd_T42 x20 x22).f1) 0) 2097152))) 1099511627776) x7 bt366.2.2.2.2.2 x20 x21 x22 x337000 x337001 x337002 x337003 x343000 x343001 x343002 x343003 x343004 bt366.1 bt366.2.1 bt366.2.2.1 bt366.2.2.2.1 bt366.2.2.2.2.1)) else (if ((rd_T42 x20 x22).f0) = 4 then ((task_Expire.f k x337000 x337001 x337002 x337003 x343000 x343001 x343002 x343003 x343004 (mn (wrap64 (x6 + (mn (mx ((rd_T42 x20 x22).f1) 0) 2097152))) 1099511627776)).bind fun bt372 => (penelopelaw18_TaskLasts.j1 k (mn (wrap64 (x6 + (mn (mx ((rd_T42 x20 x22).f1) 0) 2097152))) 1099511627776) x7 0 x20 x21 x22 x337000 x337001 x337002 x337003 x343000 x343001 x343002 x343003 x343004 bt372.1 bt372.2.1 bt372.2.2.1 bt372.2.2.2.1 bt372.2.2.2.2)) else ((task_Cancel.f x343000 x343001 x343002 x343003 x343004).bind fun bt377 => (penelopelaw18_TaskLasts.j1 k (mn (wrap64 (x6 + (mn (mx ((rd_T42 x20 x22).f1) 0) 2097152))) 1099511627776) x7 0 x20 x21 x22 x337000 x337001 x337002 x337003 x343000 x343001 x343002 x343003 x343004 bt377.1 bt377.2.1 bt377.2.2.1 bt377.2.2.2.1 bt377.2.2.2.2)))))))) else (none)) else (none)) else ((penelopelaw18_alive.f).bind fun t343 => (some t343))
def penelopelaw18_TaskLasts.j1 : Nat → Int → Int → Int → List (S42) → Int → Int → List Int → Int → Int → Int → Int → Int → Int → Int → ByteArray → Int → Int → Int → Int → ByteArray → Option (Bool)
  | 0, _, _, _, _, _, _, _, _, _, _, _, _, _, _, _, _, _, _, _, _ => none
  | k + 1, x6, x7, x11, x20, x21, x22, x337000, x337001, x337002, x337003, x343000, x343001, x343002, x343003, x343004, x348000, x348001, x348002, x348003, x348004 => if x343000 = 3 then (penelopelaw18_TaskLasts.j2 k x6 x7 x11 true x20 x21 x22 x337000 x337001 x337002 x337003 x343000 x343001 x343002 x343003 x343004 x348000 x348001 x348002 x348003 x348004) else (if x343000 = 4 then (penelopelaw18_TaskLasts.j2 k x6 x7 x11 true x20 x21 x22 x337000 x337001 x337002 x337003 x343000 x343001 x343002 x343003 x343004 x348000 x348001 x348002 x348003 x348004) else (penelopelaw18_TaskLasts.j2 k x6 x7 x11 (x343000 == 5) x20 x21 x22 x337000 x337001 x337002 x337003 x343000 x343001 x343002 x343003 x343004 x348000 x348001 x348002 x348003 x348004))
def penelopelaw18_TaskLasts.j2 : Nat → Int → Int → Int → Bool → List (S42) → Int → Int → List Int → Int → Int → Int → Int → Int → Int → Int → ByteArray → Int → Int → Int → Int → ByteArray → Option (Bool)
  | 0, _, _, _, _, _, _, _, _, _, _, _, _, _, _, _, _, _, _, _, _, _ => none
  | k + 1, x6, x7, x11, x12, x20, x21, x22, x337000, x337001, x337002, x337003, x343000, x343001, x343002, x343003, x343004, x348000, x348001, x348002, x348003, x348004 => if x11 = 0 then (penelopelaw18_TaskLasts.j3 k x6 x7 x12 x20 x21 x22 x337000 x337001 x337002 x337003 x343000 x343001 x343002 x343003 x343004 x348000 x348001 x348002 x348003 x348004) else (penelopelaw18_TaskLasts.j3 k x6 x7 x12 x20 x21 x22 x337000 x337001 x337002 x337003 x343000 x343001 x343002 x343003 x343004 x343000 x343001 x343002 x343003 x343004)
def penelopelaw18_TaskLasts.j3 : Nat → Int → Int → Bool → List (S42) → Int → Int → List Int → Int → Int → Int → Int → Int → Int → Int → ByteArray → Int → Int → Int → Int → ByteArray → Option (Bool)
  | 0, _, _, _, _, _, _, _, _, _, _, _, _, _, _, _, _, _, _, _, _ => none
  | k + 1, x6, x7, x12, x20, x21, x22, x337000, x337001, x337002, x337003, x343000, x343001, x343002, x343003, x343004, x348000, x348001, x348002, x348003, x348004 => if x12 = true then (if (!(x348000 == x343000) || (!(x348001 == x343001) || (!(x348002 == x343002) || (!(x348003 == x343003) || (!(x348004.toList == x343004.toList)))))) = true then (none) else ((task_Right.f k x337000 x337001 x337002 x337003 x348000 x348001 x348002 x348003 x348004).bind fun t382 => (if t382 = true then ((peneloperef18_Right.f k x337000 x337001 x337002 x337003 x348000 x348001 x348002 x348003 x348004).bind fun t383 => (if t383 = true then (if x7 > x337001 then (none) else (if x348001 = x7 then (penelopelaw18_TaskLasts.l0 k x6 x7 x20 x21 (wrap64 (x22 + 1)) x337000 x337001 x337002 x337003 x348000 x348001 x348002 x348003 x348004) else (none))) else (none))) else (none)))) else ((task_Right.f k x337000 x337001 x337002 x337003 x348000 x348001 x348002 x348003 x348004).bind fun t384 => (if t384 = true then ((peneloperef18_Right.f k x337000 x337001 x337002 x337003 x348000 x348001 x348002 x348003 x348004).bind fun t385 => (if t385 = true then (if x7 > x337001 then (none) else (if x348001 = x7 then (penelopelaw18_TaskLasts.l0 k x6 x7 x20 x21 (wrap64 (x22 + 1)) x337000 x337001 x337002 x337003 x348000 x348001 x348002 x348003 x348004) else (none))) else (none))) else (none)))
end
def penelopelaw18_TaskLasts.f (k : Nat) (l0_0 : List Int) (a0_1 : Int) (a0_2 : Int) (a0_3 : Int) (l1 : List (S42)) : Option (Bool) := (task_Ready.f 0 0 0 0 (⟨#[]⟩ : ByteArray)).bind fun bt337 => (penelopelaw18_TaskLasts.l0 k 0 0 l1 (l1.length : Int) 0 l0_0 (mn (mx a0_1 1) 8) a0_2 a0_3 bt337.1 bt337.2.1 bt337.2.2.1 bt337.2.2.2.1 bt337.2.2.2.2)
theorem penelopelaw18_TaskLasts.mono_l : ∀ k, (∀ y0 y1 y2 y3 y4 y5 y6 y7 y8 y9 y10 y11 y12 y13, LeO (penelopelaw18_TaskLasts.l0 k y0 y1 y2 y3 y4 y5 y6 y7 y8 y9 y10 y11 y12 y13) (penelopelaw18_TaskLasts.l0 (k + 1) y0 y1 y2 y3 y4 y5 y6 y7 y8 y9 y10 y11 y12 y13)) ∧ (∀ y0 y1 y2 y3 y4 y5 y6 y7 y8 y9 y10 y11 y12 y13 y14 y15 y16 y17 y18 y19, LeO (penelopelaw18_TaskLasts.j1 k y0 y1 y2 y3 y4 y5 y6 y7 y8 y9 y10 y11 y12 y13 y14 y15 y16 y17 y18 y19) (penelopelaw18_TaskLasts.j1 (k + 1) y0 y1 y2 y3 y4 y5 y6 y7 y8 y9 y10 y11 y12 y13 y14 y15 y16 y17 y18 y19)) ∧ (∀ y0 y1 y2 y3 y4 y5 y6 y7 y8 y9 y10 y11 y12 y13 y14 y15 y16 y17 y18 y19 y20, LeO (penelopelaw18_TaskLasts.j2 k y0 y1 y2 y3 y4 y5 y6 y7 y8 y9 y10 y11 y12 y13 y14 y15 y16 y17 y18 y19 y20) (penelopelaw18_TaskLasts.j2 (k + 1) y0 y1 y2 y3 y4 y5 y6 y7 y8 y9 y10 y11 y12 y13 y14 y15 y16 y17 y18 y19 y20)) ∧ (∀ y0 y1 y2 y3 y4 y5 y6 y7 y8 y9 y10 y11 y12 y13 y14 y15 y16 y17 y18 y19, LeO (penelopelaw18_TaskLasts.j3 k y0 y1 y2 y3 y4 y5 y6 y7 y8 y9 y10 y11 y12 y13 y14 y15 y16 y17 y18 y19) (penelopelaw18_TaskLasts.j3 (k + 1) y0 y1 y2 y3 y4 y5 y6 y7 y8 y9 y10 y11 y12 y13 y14 y15 y16 y17 y18 y19))
  | 0 => ⟨fun _ _ _ _ _ _ _ _ _ _ _ _ _ _ r h => by simp [penelopelaw18_TaskLasts.l0] at h, fun _ _ _ _ _ _ _ _ _ _ _ _ _ _ _ _ _ _ _ _ r h => by simp [penelopelaw18_TaskLasts.j1] at h, fun _ _ _ _ _ _ _ _ _ _ _ _ _ _ _ _ _ _ _ _ _ r h => by simp [penelopelaw18_TaskLasts.j2] at h, fun _ _ _ _ _ _ _ _ _ _ _ _ _ _ _ _ _ _ _ _ r h => by simp [penelopelaw18_TaskLasts.j3] at h⟩
  | k + 1 => by
    obtain ⟨ih0, ih1, ih2, ih3⟩ := penelopelaw18_TaskLasts.mono_l k
    refine ⟨?_, ?_, ?_, ?_⟩
    · intro y0 y1 y2 y3 y4 y5 y6 y7 y8 y9 y10 y11 y12 y13
      unfold penelopelaw18_TaskLasts.l0
      repeat' first
      | (with_reducible exact ih0 _ _ _ _ _ _ _ _ _ _ _ _ _ _)
      | (with_reducible exact ih1 _ _ _ _ _ _ _ _ _ _ _ _ _ _ _ _ _ _ _ _)
      | (with_reducible exact ih2 _ _ _ _ _ _ _ _ _ _ _ _ _ _ _ _ _ _ _ _ _)
      | (with_reducible exact ih3 _ _ _ _ _ _ _ _ _ _ _ _ _ _ _ _ _ _ _ _)
      | (with_reducible exact peneloperef18_Right.mono _ _ _ _ _ _ _ _ _ _)
      | (with_reducible exact task_Beat.mono _ _ _ _ _ _ _ _ _ _ _)
      | (with_reducible exact task_Expire.mono _ _ _ _ _ _ _ _ _ _ _)
      | (with_reducible exact task_Fail.mono _ _ _ _ _ _ _ _ _ _ _)
      | (with_reducible exact task_Lease.mono _ _ _ _ _ _ _ _ _ _ _ _)
      | (with_reducible exact task_Right.mono _ _ _ _ _ _ _ _ _ _)
      | (with_reducible exact LeO.refl _)
      | (with_reducible exact LeO.none _)
      | (with_reducible refine LeO.ite ?_ ?_)
      | (with_reducible refine LeO.bind ?_ (fun _ => ?_))
      | exact ih0 _ _ _ _ _ _ _ _ _ _ _ _ _ _
      | exact ih1 _ _ _ _ _ _ _ _ _ _ _ _ _ _ _ _ _ _ _ _
      | exact ih2 _ _ _ _ _ _ _ _ _ _ _ _ _ _ _ _ _ _ _ _ _
      | exact ih3 _ _ _ _ _ _ _ _ _ _ _ _ _ _ _ _ _ _ _ _
      | exact peneloperef18_Right.mono _ _ _ _ _ _ _ _ _ _
      | exact task_Beat.mono _ _ _ _ _ _ _ _ _ _ _
      | exact task_Expire.mono _ _ _ _ _ _ _ _ _ _ _
      | exact task_Fail.mono _ _ _ _ _ _ _ _ _ _ _
      | exact task_Lease.mono _ _ _ _ _ _ _ _ _ _ _ _
      | exact task_Right.mono _ _ _ _ _ _ _ _ _ _
      | exact LeO.none _
      | refine LeO.ite ?_ ?_
      | refine LeO.bind ?_ (fun _ => ?_)
    · intro y0 y1 y2 y3 y4 y5 y6 y7 y8 y9 y10 y11 y12 y13 y14 y15 y16 y17 y18 y19
      unfold penelopelaw18_TaskLasts.j1
      repeat' first
      | (with_reducible exact ih0 _ _ _ _ _ _ _ _ _ _ _ _ _ _)
      | (with_reducible exact ih1 _ _ _ _ _ _ _ _ _ _ _ _ _ _ _ _ _ _ _ _)
      | (with_reducible exact ih2 _ _ _ _ _ _ _ _ _ _ _ _ _ _ _ _ _ _ _ _ _)
      | (with_reducible exact ih3 _ _ _ _ _ _ _ _ _ _ _ _ _ _ _ _ _ _ _ _)
      | (with_reducible exact peneloperef18_Right.mono _ _ _ _ _ _ _ _ _ _)
      | (with_reducible exact task_Beat.mono _ _ _ _ _ _ _ _ _ _ _)
      | (with_reducible exact task_Expire.mono _ _ _ _ _ _ _ _ _ _ _)
      | (with_reducible exact task_Fail.mono _ _ _ _ _ _ _ _ _ _ _)
      | (with_reducible exact task_Lease.mono _ _ _ _ _ _ _ _ _ _ _ _)
      | (with_reducible exact task_Right.mono _ _ _ _ _ _ _ _ _ _)
      | (with_reducible exact LeO.refl _)
      | (with_reducible exact LeO.none _)
      | (with_reducible refine LeO.ite ?_ ?_)
      | (with_reducible refine LeO.bind ?_ (fun _ => ?_))
      | exact ih0 _ _ _ _ _ _ _ _ _ _ _ _ _ _
      | exact ih1 _ _ _ _ _ _ _ _ _ _ _ _ _ _ _ _ _ _ _ _
      | exact ih2 _ _ _ _ _ _ _ _ _ _ _ _ _ _ _ _ _ _ _ _ _
      | exact ih3 _ _ _ _ _ _ _ _ _ _ _ _ _ _ _ _ _ _ _ _
      | exact peneloperef18_Right.mono _ _ _ _ _ _ _ _ _ _
      | exact task_Beat.mono _ _ _ _ _ _ _ _ _ _ _
      | exact task_Expire.mono _ _ _ _ _ _ _ _ _ _ _
      | exact task_Fail.mono _ _ _ _ _ _ _ _ _ _ _
      | exact task_Lease.mono _ _ _ _ _ _ _ _ _ _ _ _
      | exact task_Right.mono _ _ _ _ _ _ _ _ _ _
      | exact LeO.none _
      | refine LeO.ite ?_ ?_
      | refine LeO.bind ?_ (fun _ => ?_)
    · intro y0 y1 y2 y3 y4 y5 y6 y7 y8 y9 y10 y11 y12 y13 y14 y15 y16 y17 y18 y19 y20
      unfold penelopelaw18_TaskLasts.j2
      repeat' first
      | (with_reducible exact ih0 _ _ _ _ _ _ _ _ _ _ _ _ _ _)
      | (with_reducible exact ih1 _ _ _ _ _ _ _ _ _ _ _ _ _ _ _ _ _ _ _ _)
      | (with_reducible exact ih2 _ _ _ _ _ _ _ _ _ _ _ _ _ _ _ _ _ _ _ _ _)
      | (with_reducible exact ih3 _ _ _ _ _ _ _ _ _ _ _ _ _ _ _ _ _ _ _ _)
      | (with_reducible exact peneloperef18_Right.mono _ _ _ _ _ _ _ _ _ _)
      | (with_reducible exact task_Beat.mono _ _ _ _ _ _ _ _ _ _ _)
      | (with_reducible exact task_Expire.mono _ _ _ _ _ _ _ _ _ _ _)
      | (with_reducible exact task_Fail.mono _ _ _ _ _ _ _ _ _ _ _)
      | (with_reducible exact task_Lease.mono _ _ _ _ _ _ _ _ _ _ _ _)
      | (with_reducible exact task_Right.mono _ _ _ _ _ _ _ _ _ _)
      | (with_reducible exact LeO.refl _)
      | (with_reducible exact LeO.none _)
      | (with_reducible refine LeO.ite ?_ ?_)
      | (with_reducible refine LeO.bind ?_ (fun _ => ?_))
      | exact ih0 _ _ _ _ _ _ _ _ _ _ _ _ _ _
      | exact ih1 _ _ _ _ _ _ _ _ _ _ _ _ _ _ _ _ _ _ _ _
      | exact ih2 _ _ _ _ _ _ _ _ _ _ _ _ _ _ _ _ _ _ _ _ _
      | exact ih3 _ _ _ _ _ _ _ _ _ _ _ _ _ _ _ _ _ _ _ _
      | exact peneloperef18_Right.mono _ _ _ _ _ _ _ _ _ _
      | exact task_Beat.mono _ _ _ _ _ _ _ _ _ _ _
      | exact task_Expire.mono _ _ _ _ _ _ _ _ _ _ _
      | exact task_Fail.mono _ _ _ _ _ _ _ _ _ _ _
      | exact task_Lease.mono _ _ _ _ _ _ _ _ _ _ _ _
      | exact task_Right.mono _ _ _ _ _ _ _ _ _ _
      | exact LeO.none _
      | refine LeO.ite ?_ ?_
      | refine LeO.bind ?_ (fun _ => ?_)
    · intro y0 y1 y2 y3 y4 y5 y6 y7 y8 y9 y10 y11 y12 y13 y14 y15 y16 y17 y18 y19
      unfold penelopelaw18_TaskLasts.j3
      repeat' first
      | (with_reducible exact ih0 _ _ _ _ _ _ _ _ _ _ _ _ _ _)
      | (with_reducible exact ih1 _ _ _ _ _ _ _ _ _ _ _ _ _ _ _ _ _ _ _ _)
      | (with_reducible exact ih2 _ _ _ _ _ _ _ _ _ _ _ _ _ _ _ _ _ _ _ _ _)
      | (with_reducible exact ih3 _ _ _ _ _ _ _ _ _ _ _ _ _ _ _ _ _ _ _ _)
      | (with_reducible exact peneloperef18_Right.mono _ _ _ _ _ _ _ _ _ _)
      | (with_reducible exact task_Beat.mono _ _ _ _ _ _ _ _ _ _ _)
      | (with_reducible exact task_Expire.mono _ _ _ _ _ _ _ _ _ _ _)
      | (with_reducible exact task_Fail.mono _ _ _ _ _ _ _ _ _ _ _)
      | (with_reducible exact task_Lease.mono _ _ _ _ _ _ _ _ _ _ _ _)
      | (with_reducible exact task_Right.mono _ _ _ _ _ _ _ _ _ _)
      | (with_reducible exact LeO.refl _)
      | (with_reducible exact LeO.none _)
      | (with_reducible refine LeO.ite ?_ ?_)
      | (with_reducible refine LeO.bind ?_ (fun _ => ?_))
      | exact ih0 _ _ _ _ _ _ _ _ _ _ _ _ _ _
      | exact ih1 _ _ _ _ _ _ _ _ _ _ _ _ _ _ _ _ _ _ _ _
      | exact ih2 _ _ _ _ _ _ _ _ _ _ _ _ _ _ _ _ _ _ _ _ _
      | exact ih3 _ _ _ _ _ _ _ _ _ _ _ _ _ _ _ _ _ _ _ _
      | exact peneloperef18_Right.mono _ _ _ _ _ _ _ _ _ _
      | exact task_Beat.mono _ _ _ _ _ _ _ _ _ _ _
      | exact task_Expire.mono _ _ _ _ _ _ _ _ _ _ _
      | exact task_Fail.mono _ _ _ _ _ _ _ _ _ _ _
      | exact task_Lease.mono _ _ _ _ _ _ _ _ _ _ _ _
      | exact task_Right.mono _ _ _ _ _ _ _ _ _ _
      | exact LeO.none _
      | refine LeO.ite ?_ ?_
      | refine LeO.bind ?_ (fun _ => ?_)
theorem penelopelaw18_TaskLasts.mono : ∀ a0 a1 a2 a3 a4 k, LeO (penelopelaw18_TaskLasts.f k a0 a1 a2 a3 a4) (penelopelaw18_TaskLasts.f (k + 1) a0 a1 a2 a3 a4) := by
  intro a0 a1 a2 a3 a4 k
  obtain ⟨ih0, ih1, ih2, ih3⟩ := penelopelaw18_TaskLasts.mono_l k
  unfold penelopelaw18_TaskLasts.f
  repeat' first
      | (with_reducible exact ih0 _ _ _ _ _ _ _ _ _ _ _ _ _ _)
      | (with_reducible exact ih1 _ _ _ _ _ _ _ _ _ _ _ _ _ _ _ _ _ _ _ _)
      | (with_reducible exact ih2 _ _ _ _ _ _ _ _ _ _ _ _ _ _ _ _ _ _ _ _ _)
      | (with_reducible exact ih3 _ _ _ _ _ _ _ _ _ _ _ _ _ _ _ _ _ _ _ _)
      | (with_reducible exact peneloperef18_Right.mono _ _ _ _ _ _ _ _ _ _)
      | (with_reducible exact task_Beat.mono _ _ _ _ _ _ _ _ _ _ _)
      | (with_reducible exact task_Expire.mono _ _ _ _ _ _ _ _ _ _ _)
      | (with_reducible exact task_Fail.mono _ _ _ _ _ _ _ _ _ _ _)
      | (with_reducible exact task_Lease.mono _ _ _ _ _ _ _ _ _ _ _ _)
      | (with_reducible exact task_Right.mono _ _ _ _ _ _ _ _ _ _)
      | (with_reducible exact LeO.refl _)
      | (with_reducible exact LeO.none _)
      | (with_reducible refine LeO.ite ?_ ?_)
      | (with_reducible refine LeO.bind ?_ (fun _ => ?_))
      | exact ih0 _ _ _ _ _ _ _ _ _ _ _ _ _ _
      | exact ih1 _ _ _ _ _ _ _ _ _ _ _ _ _ _ _ _ _ _ _ _
      | exact ih2 _ _ _ _ _ _ _ _ _ _ _ _ _ _ _ _ _ _ _ _ _
      | exact ih3 _ _ _ _ _ _ _ _ _ _ _ _ _ _ _ _ _ _ _ _
      | exact peneloperef18_Right.mono _ _ _ _ _ _ _ _ _ _
      | exact task_Beat.mono _ _ _ _ _ _ _ _ _ _ _
      | exact task_Expire.mono _ _ _ _ _ _ _ _ _ _ _
      | exact task_Fail.mono _ _ _ _ _ _ _ _ _ _ _
      | exact task_Lease.mono _ _ _ _ _ _ _ _ _ _ _ _
      | exact task_Right.mono _ _ _ _ _ _ _ _ _ _
      | exact LeO.none _
      | refine LeO.ite ?_ ?_
      | refine LeO.bind ?_ (fun _ => ?_)
set_option maxHeartbeats 8000000 in
set_option maxRecDepth 100000 in
theorem penelopelaw18_TaskLasts.calls (k : Nat) (A0_0 : Option Addr) (c0_0 : Nat) (l0_0 : List Int) (a0_1 : Int) (a0_2 : Int) (a0_3 : Int) (A1 : Option Addr) (c1 : Nat) (l1 : List (S42)) (r : Bool) (w : World) (hr0_0 : Kd.C (Kd.int .i64) w A0_0 l0_0.length l0_0) (hc0_0 : l0_0.length ≤ c0_0) (hr1 : Kd.C k42 w A1 l1.length l1) (hc1 : l1.length ≤ c1) (h : penelopelaw18_TaskLasts.f k l0_0 a0_1 a0_2 a0_3 l1 = some r) :
    Calls Try.prog 7 #[.agg #[.slice A0_0 l0_0.length c0_0, .int .i64 a0_1, .int .i64 a0_2, .int .i64 a0_3], .slice A1 l1.length c1] w fun e w' => e = .returned (.bool r) ∧ Below w.heap.size w w' := by
  have hu24 := Try.underlying24
  have hu26 := Try.underlying26
  have hu42 := Try.underlying42
  have HR0_0 := Aside0.mk hr0_0
  have HC0_0 := Aside0.mk hc0_0
  clear hr0_0 hc0_0
  have HR1 := Aside0.mk hr1
  have HC1 := Aside0.mk hc1
  clear hr1 hc1
  have HB := Aside0.mk (Below.refl w.heap.size w)
  have H : ((task_Ready.f 0 0 0 0 (⟨#[]⟩ : ByteArray)).bind fun bt337 => (penelopelaw18_TaskLasts.l0 k 0 0 l1 (l1.length : Int) 0 l0_0 (mn (mx a0_1 1) 8) a0_2 a0_3 bt337.1 bt337.2.1 bt337.2.2.1 bt337.2.2.2.1 bt337.2.2.2.2)) = some r := h
  clear h
  obtain ⟨ji3, hji3⟩ : ∃ j_ : Int, (mx a0_1 1) = j_ := ⟨_, rfl⟩
  replace H : ((task_Ready.f 0 0 0 0 (⟨#[]⟩ : ByteArray)).bind fun bt337 => (penelopelaw18_TaskLasts.l0 k 0 0 l1 (l1.length : Int) 0 l0_0 (mn (ji3) 8) a0_2 a0_3 bt337.1 bt337.2.1 bt337.2.2.1 bt337.2.2.2.1 bt337.2.2.2.2)) = some r := by first | (rw [hji3] at H; exact H) | (simp only [hji3] at H ⊢; exact H)
  (try (have hji3l : 1 ≤ ji3 := by (rw [← hji3]; unfold mx; (repeat' split) <;> omega)))
  (try (have hji3m : 0 ≤ ji3 := by omega))
  have hji3_ : (if a0_1 < 1 then 1 else a0_1) = ji3 := hji3
  obtain ⟨ji4, hji4⟩ : ∃ j_ : Int, (mn (ji3) 8) = j_ := ⟨_, rfl⟩
  replace H : ((task_Ready.f 0 0 0 0 (⟨#[]⟩ : ByteArray)).bind fun bt337 => (penelopelaw18_TaskLasts.l0 k 0 0 l1 (l1.length : Int) 0 l0_0 ji4 a0_2 a0_3 bt337.1 bt337.2.1 bt337.2.2.1 bt337.2.2.2.1 bt337.2.2.2.2)) = some r := by first | (rw [hji4] at H; exact H) | (simp only [hji4] at H ⊢; exact H)
  have hji4_ : (if 8 < (ji3) then 8 else (ji3)) = ji4 := hji4
  replace H := Option.bind_eq_some_iff.mp H
  obtain ⟨⟨t337, t338, t339, t340, t341⟩, A50, H⟩ := H
  replace H : (penelopelaw18_TaskLasts.l0 k 0 0 l1 (l1.length : Int) 0 l0_0 ji4 a0_2 a0_3 t337 t338 t339 t340 t341) = some r := H
  have A5 := Aside0.mk A50
  clear A50
  have H' := Aside0.mk H
  clear H
  go_enter Try.func7, Try.ntmps7
  go_wp2_with (first | ((with_reducible refine gate_dst (N := 2) rfl ?_); refine box_event ?hg (N := 2) ?hd (cs := #[.slice A0_0 l0_0.length c0_0, .int .i64 a0_1, .int .i64 a0_2, .int .i64 a0_3]) (t := 24) ?hr ?_; (case hd => rfl); (case hg => rfl); (case hr => first | (go_simp; done) | (go_simp; rfl)); intro gb336 hg w6 hbox hb; have n0_ := Aside0.mk (below_step (by repeat (first | (with_reducible first | exact HB.out | apply below_alloc | apply pw_below_drewN | apply below_drew1) | exact HB.out)) hb); have n1_ := Aside0.mk (hbox); have n2_ := Aside0.mk ((by rw [hg]; exact (below_size (by repeat (first | (with_reducible first | exact HB.out | apply below_alloc | apply pw_below_drewN | apply below_drew1) | exact HB.out))) : w.heap.size ≤ gb336)); have n3_ := Aside0.mk ((by rw [hg]; exact (below_size (by repeat (first | (with_reducible first | exact HB.out | apply below_alloc | apply pw_below_drewN | apply below_drew1) | exact HB.out))) : w.heap.size ≤ gb336)); clear HB; have HB := n0_; have BK336 := n1_; have GW336 := n2_; have GE336 := n3_; clear n0_ n1_ n2_ n3_; clear hb hbox hg; have hcz7_0 : w6.cell? ⟨gb336, 0, none⟩ = some (.slice A0_0 l0_0.length c0_0) := (blk_cell BK336.out 0).trans rfl; have hcz7_1 : w6.cell? ⟨gb336, 1, none⟩ = some (.int .i64 a0_1) := (blk_cell BK336.out 1).trans rfl; have hcz7_2 : w6.cell? ⟨gb336, 2, none⟩ = some (.int .i64 a0_2) := (blk_cell BK336.out 2).trans rfl; have hcz7_3 : w6.cell? ⟨gb336, 3, none⟩ = some (.int .i64 a0_3) := (blk_cell BK336.out 3).trans rfl; have hfz7_0 := blk_frozen BK336.out 0; have hfz7_1 := blk_frozen BK336.out 1; have hfz7_2 := blk_frozen BK336.out 2; have hfz7_3 := blk_frozen BK336.out 3) | ((with_reducible refine gate_callee (f := 22) rfl ?_); refine goesL_ (some 19) rfl rfl Try.func22 (by kernel_rfl) rfl #[.agg #[.int .i64 0, .int .i64 0, .int .i64 0, .int .i64 0, .string (⟨#[]⟩ : ByteArray)]] rfl (by (try simp only [List.map_toArray, List.map_cons, List.map_nil]); first | done | rfl | (simp only [List.length_drop, List.length_take]; rfl)) ?_; (with_reducible refine (task_Ready.calls 0 0 0 0 (⟨#[]⟩ : ByteArray) t337 t338 t339 t340 t341 _ A5.out).mono ?_); rintro e w8 ⟨rfl, hb⟩; refine ⟨_, rfl, ?_⟩; have n0_ := Aside0.mk (blk_below (g := gb336) (o := .cells #[.slice A0_0 l0_0.length c0_0, .int .i64 ji4, .int .i64 a0_2, .int .i64 a0_3] 24 (0, 0)) (by (with_reducible repeat (first | refine blk_drewN ?_ _ | refine blk_drew ?_ | refine blk_alloc ?_ _)); refine blk_put (cs := #[.slice A0_0 l0_0.length c0_0, .int .i64 a0_1, .int .i64 a0_2, .int .i64 a0_3]) ?_ 1 _ rfl; (with_reducible repeat (first | refine blk_drewN ?_ _ | refine blk_drew ?_ | refine blk_alloc ?_ _)); exact BK336.out) hb); have n1_ := Aside0.mk (below_step (by repeat (first | (with_reducible first | exact HB.out | apply below_alloc | apply pw_below_drewN | apply below_drew1 | refine below_set ?_ GE336.out) | exact HB.out)) hb); clear BK336; clear HB; have BK336 := n0_; have HB := n1_; clear n0_ n1_; (try clear hb); (try clear hb2); (try clear hk); (try clear hi)) | ((with_reducible refine gate_dst (N := 5) rfl ?_); refine box_event ?hg (N := 5) ?hd (cs := #[.int .i64 0, .int .i64 0, .int .i64 0, .int .i64 0, .string (⟨#[]⟩ : ByteArray)]) (t := 26) ?hr ?_; (case hd => rfl); (case hg => rfl); (case hr => first | (go_simp; done) | (go_simp; rfl)); intro gb342 hg w9 hbox hb; have n0_ := Aside0.mk (blk_below (g := gb336) (o := .cells #[.slice A0_0 l0_0.length c0_0, .int .i64 ji4, .int .i64 a0_2, .int .i64 a0_3] 24 (0, 0)) (by (with_reducible repeat (first | refine blk_drewN ?_ _ | refine blk_drew ?_ | refine blk_alloc ?_ _)); exact BK336.out) hb); have n1_ := Aside0.mk (below_step (by repeat (first | (with_reducible first | exact HB.out | apply below_alloc | apply pw_below_drewN | apply below_drew1 | refine below_set ?_ GE336.out) | exact HB.out)) hb); have n2_ := Aside0.mk (hbox); have n3_ := Aside0.mk ((by rw [hg]; exact (below_size (by repeat (first | (with_reducible first | exact HB.out | apply below_alloc | apply pw_below_drewN | apply below_drew1 | refine below_set ?_ GE336.out) | exact HB.out))) : w.heap.size ≤ gb342)); have n4_ := Aside0.mk ((by rw [hg]; exact (below_size (by repeat (first | (with_reducible first | exact HB.out | apply below_alloc | apply pw_below_drewN | apply below_drew1 | refine below_set ?_ GE336.out) | exact HB.out))) : w.heap.size ≤ gb342)); have n5_ := Aside0.mk ((by rw [hg]; exact Nat.ne_of_lt (blk_lt (g := gb336) (o := .cells #[.slice A0_0 l0_0.length c0_0, .int .i64 ji4, .int .i64 a0_2, .int .i64 a0_3] 24 (0, 0)) (by (with_reducible repeat (first | refine blk_drewN ?_ _ | refine blk_drew ?_ | refine blk_alloc ?_ _)); exact BK336.out)) : gb336 ≠ gb342)); have n6_ := Aside0.mk ((by rw [hg]; exact Nat.ne_of_gt (blk_lt (g := gb336) (o := .cells #[.slice A0_0 l0_0.length c0_0, .int .i64 ji4, .int .i64 a0_2, .int .i64 a0_3] 24 (0, 0)) (by (with_reducible repeat (first | refine blk_drewN ?_ _ | refine blk_drew ?_ | refine blk_alloc ?_ _)); exact BK336.out)) : gb342 ≠ gb336)); clear BK336; clear HB; have BK336 := n0_; have HB := n1_; have BK342 := n2_; have GW342 := n3_; have GE342 := n4_; have NB336_342 := n5_; have NB342_336 := n6_; clear n0_ n1_ n2_ n3_ n4_ n5_ n6_; clear hb hbox hg; have hnb10 := NB342_336.out; have hnc10 := NB336_342.out; have hcz11_0 : w9.cell? ⟨gb342, 0, none⟩ = some (.int .i64 0) := (blk_cell BK342.out 0).trans rfl; have hcz11_1 : w9.cell? ⟨gb342, 1, none⟩ = some (.int .i64 0) := (blk_cell BK342.out 1).trans rfl; have hcz11_2 : w9.cell? ⟨gb342, 2, none⟩ = some (.int .i64 0) := (blk_cell BK342.out 2).trans rfl; have hcz11_3 : w9.cell? ⟨gb342, 3, none⟩ = some (.int .i64 0) := (blk_cell BK342.out 3).trans rfl; have hcz11_4 : w9.cell? ⟨gb342, 4, none⟩ = some (.string (⟨#[]⟩ : ByteArray)) := (blk_cell BK342.out 4).trans rfl; have hfz11_0 := blk_frozen BK342.out 0; have hfz11_1 := blk_frozen BK342.out 1; have hfz11_2 := blk_frozen BK342.out 2; have hfz11_3 := blk_frozen BK342.out 3; have hfz11_4 := blk_frozen BK342.out 4))
  go_loopg [6, 7, 22] k (fun kq v6 v7 v22 w' => ∃ (x6_1 : Int) (x7_1 : Int) (x22_1 : Int) (x343000_1 : Int) (x343001_1 : Int) (x343002_1 : Int) (x343003_1 : Int) (x343004_1 : ByteArray), v6 = .int .i64 x6_1 ∧ v7 = .int .i64 x7_1 ∧ v22 = .int .i64 x22_1 ∧ Aside0 (penelopelaw18_TaskLasts.l0 kq x6_1 x7_1 l1 (l1.length : Int) x22_1 l0_0 ji4 a0_2 a0_3 x343000_1 x343001_1 x343002_1 x343003_1 x343004_1 = some r) ∧ Aside0 (kq ≤ k) ∧ Aside0 (w'.heap[gb336]? = some (.cells #[(.slice A0_0 l0_0.length c0_0), .int .i64 ji4, .int .i64 a0_2, .int .i64 a0_3] 24 (0, 0))) ∧ Aside0 (w'.heap[gb342]? = some (.cells #[.int .i64 x343000_1, .int .i64 x343001_1, .int .i64 x343002_1, .int .i64 x343003_1, .string x343004_1] 26 (0, 0))) ∧ Aside0 (Below w.heap.size w w'))
  case atStart => exact ⟨(0), (0), (0), (t337), (t338), (t339), (t340), (t341), (by first | rfl | (simp; done) | (simp [*]; done)), (by first | rfl | (simp; done) | (simp [*]; done)), (by first | rfl | (simp; done) | (simp [*]; done)), H', ⟨Nat.le_refl _⟩, ⟨by (with_reducible repeat (first | refine blk_drewN ?_ _ | refine blk_drew ?_ | refine blk_alloc ?_ _)); refine blk_far ?_ NB336_342.out _; (with_reducible repeat (first | refine blk_drewN ?_ _ | refine blk_drew ?_ | refine blk_alloc ?_ _)); refine blk_far ?_ NB336_342.out _; (with_reducible repeat (first | refine blk_drewN ?_ _ | refine blk_drew ?_ | refine blk_alloc ?_ _)); refine blk_far ?_ NB336_342.out _; (with_reducible repeat (first | refine blk_drewN ?_ _ | refine blk_drew ?_ | refine blk_alloc ?_ _)); refine blk_far ?_ NB336_342.out _; (with_reducible repeat (first | refine blk_drewN ?_ _ | refine blk_drew ?_ | refine blk_alloc ?_ _)); refine blk_far ?_ NB336_342.out _; (with_reducible repeat (first | refine blk_drewN ?_ _ | refine blk_drew ?_ | refine blk_alloc ?_ _)); exact BK336.out⟩, ⟨by (with_reducible repeat (first | refine blk_drewN ?_ _ | refine blk_drew ?_ | refine blk_alloc ?_ _)); refine blk_put (cs := #[.int .i64 t337, .int .i64 t338, .int .i64 t339, .int .i64 t340, .string (⟨#[]⟩ : ByteArray)]) ?_ 4 _ rfl; (with_reducible repeat (first | refine blk_drewN ?_ _ | refine blk_drew ?_ | refine blk_alloc ?_ _)); refine blk_put (cs := #[.int .i64 t337, .int .i64 t338, .int .i64 t339, .int .i64 0, .string (⟨#[]⟩ : ByteArray)]) ?_ 3 _ rfl; (with_reducible repeat (first | refine blk_drewN ?_ _ | refine blk_drew ?_ | refine blk_alloc ?_ _)); refine blk_put (cs := #[.int .i64 t337, .int .i64 t338, .int .i64 0, .int .i64 0, .string (⟨#[]⟩ : ByteArray)]) ?_ 2 _ rfl; (with_reducible repeat (first | refine blk_drewN ?_ _ | refine blk_drew ?_ | refine blk_alloc ?_ _)); refine blk_put (cs := #[.int .i64 t337, .int .i64 0, .int .i64 0, .int .i64 0, .string (⟨#[]⟩ : ByteArray)]) ?_ 1 _ rfl; (with_reducible repeat (first | refine blk_drewN ?_ _ | refine blk_drew ?_ | refine blk_alloc ?_ _)); refine blk_put (cs := #[.int .i64 0, .int .i64 0, .int .i64 0, .int .i64 0, .string (⟨#[]⟩ : ByteArray)]) ?_ 0 _ rfl; (with_reducible repeat (first | refine blk_drewN ?_ _ | refine blk_drew ?_ | refine blk_alloc ?_ _)); exact BK342.out⟩, ⟨by repeat (first | (with_reducible first | exact HB.out | apply below_alloc | apply pw_below_drewN | apply below_drew1 | refine below_set ?_ GE336.out | refine below_set ?_ GE342.out) | exact HB.out)⟩⟩
  case round =>
    clear H'
    try clear c1
    try clear c2
    try clear p2
    try clear c7
    try clear c10
    try clear hcz11_0
    try clear hcz11_1
    try clear hcz11_2
    try clear hcz11_3
    try clear hcz11_4
    try clear hcz7_0
    try clear hcz7_1
    try clear hcz7_2
    try clear hcz7_3
    try clear hfz11_0
    try clear hfz11_1
    try clear hfz11_2
    try clear hfz11_3
    try clear hfz11_4
    try clear hfz7_0
    try clear hfz7_1
    try clear hfz7_2
    try clear hfz7_3
    obtain ⟨x6_1, x7_1, x22_1, x343000_1, x343001_1, x343002_1, x343003_1, x343004_1, rfl, rfl, rfl, HA, HK1, BK336, BK342, HB⟩ := hrel
    cases gk with
    | zero => exact absurd HA.out (by simp [penelopelaw18_TaskLasts.l0])
    | succ k1 =>
      have H := HA.out
      clear HA
      simp only [penelopelaw18_TaskLasts.l0] at H
      by_cases c12 : x22_1 < (l1.length : Int)
      · rw [if_pos c12] at H
        have c12b0 : decide (x22_1 < (l1.length : Int)) = true := decide_eq_true c12
        clear c12
        by_cases c13 : 0 ≤ x22_1
        · rw [if_pos c13] at H
          have c13b0 : decide (0 ≤ x22_1) = true := decide_eq_true c13
          clear c13
          by_cases c14 : x22_1 < (l1.length : Int)
          · rw [if_pos c14] at H
            have c14b0 : decide (x22_1 < (l1.length : Int)) = true := decide_eq_true c14
            clear c14
            by_cases c15 : x22_1 ≥ 60
            · rw [if_pos c15] at H
              have c15b0 : decide (60 ≤ x22_1) = true := decide_eq_true c15
              clear c15
              replace H := Option.bind_eq_some_iff.mp H
              obtain ⟨t346, A160, H⟩ := H
              replace H : (some t346) = some r := H
              have A16 := Aside0.mk A160
              clear A160
              obtain rfl := Option.some.inj H
              have p344 : 0 ≤ (x22_1 : Int) := of_decide_eq_true (by first | (with_reducible assumption) | assumption)
              have q344 : x22_1 < (l1.length : Int) := of_decide_eq_true (by first | (with_reducible assumption) | assumption)
              obtain ⟨ad344, e344, hx344_0, hx344_1⟩ := at_T42 HR1.out x22_1 p344 q344
              cases e344
              replace hx344_0 := (HB.out.cell (World.block_lt_of_cell? w _ hx344_0)).trans hx344_0
              replace hx344_1 := (HB.out.cell (World.block_lt_of_cell? w _ hx344_1)).trans hx344_1
              replace p344 := eq_true p344
              replace q344 := eq_true q344
              go_wp2_with (first | ((with_reducible refine gate_dst (N := 9) rfl ?_); refine box_event ?hg (N := 9) ?hd (cs := #[.int .i64 0, .int .i64 0]) (t := 42) ?hr ?_; (case hd => rfl); (case hg => rfl); (case hr => first | (go_simp; done) | (go_simp; rfl)); intro gb345 hg w17 hbox hb; have n0_ := Aside0.mk (blk_below (g := gb336) (o := .cells #[.slice A0_0 l0_0.length c0_0, .int .i64 ji4, .int .i64 a0_2, .int .i64 a0_3] 24 (0, 0)) (by (with_reducible repeat (first | refine blk_drewN ?_ _ | refine blk_drew ?_ | refine blk_alloc ?_ _)); exact BK336.out) hb); have n1_ := Aside0.mk (blk_below (g := gb342) (o := .cells #[.int .i64 x343000_1, .int .i64 x343001_1, .int .i64 x343002_1, .int .i64 x343003_1, .string x343004_1] 26 (0, 0)) (by (with_reducible repeat (first | refine blk_drewN ?_ _ | refine blk_drew ?_ | refine blk_alloc ?_ _)); exact BK342.out) hb); have n2_ := Aside0.mk (below_step (by repeat (first | (with_reducible first | exact HB.out | apply below_alloc | apply pw_below_drewN | apply below_drew1 | refine below_set ?_ GE336.out | refine below_set ?_ GE342.out) | exact HB.out)) hb); have n3_ := Aside0.mk (hbox); have n4_ := Aside0.mk ((by rw [hg]; exact (below_size (by repeat (first | (with_reducible first | exact HB.out | apply below_alloc | apply pw_below_drewN | apply below_drew1 | refine below_set ?_ GE336.out | refine below_set ?_ GE342.out) | exact HB.out))) : w.heap.size ≤ gb345)); have n5_ := Aside0.mk ((by rw [hg]; exact (below_size (by repeat (first | (with_reducible first | exact HB.out | apply below_alloc | apply pw_below_drewN | apply below_drew1 | refine below_set ?_ GE336.out | refine below_set ?_ GE342.out) | exact HB.out))) : w.heap.size ≤ gb345)); have n6_ := Aside0.mk ((by rw [hg]; exact Nat.ne_of_lt (blk_lt (g := gb336) (o := .cells #[.slice A0_0 l0_0.length c0_0, .int .i64 ji4, .int .i64 a0_2, .int .i64 a0_3] 24 (0, 0)) (by (with_reducible repeat (first | refine blk_drewN ?_ _ | refine blk_drew ?_ | refine blk_alloc ?_ _)); exact BK336.out)) : gb336 ≠ gb345)); have n7_ := Aside0.mk ((by rw [hg]; exact Nat.ne_of_gt (blk_lt (g := gb336) (o := .cells #[.slice A0_0 l0_0.length c0_0, .int .i64 ji4, .int .i64 a0_2, .int .i64 a0_3] 24 (0, 0)) (by (with_reducible repeat (first | refine blk_drewN ?_ _ | refine blk_drew ?_ | refine blk_alloc ?_ _)); exact BK336.out)) : gb345 ≠ gb336)); have n8_ := Aside0.mk ((by rw [hg]; exact Nat.ne_of_lt (blk_lt (g := gb342) (o := .cells #[.int .i64 x343000_1, .int .i64 x343001_1, .int .i64 x343002_1, .int .i64 x343003_1, .string x343004_1] 26 (0, 0)) (by (with_reducible repeat (first | refine blk_drewN ?_ _ | refine blk_drew ?_ | refine blk_alloc ?_ _)); exact BK342.out)) : gb342 ≠ gb345)); have n9_ := Aside0.mk ((by rw [hg]; exact Nat.ne_of_gt (blk_lt (g := gb342) (o := .cells #[.int .i64 x343000_1, .int .i64 x343001_1, .int .i64 x343002_1, .int .i64 x343003_1, .string x343004_1] 26 (0, 0)) (by (with_reducible repeat (first | refine blk_drewN ?_ _ | refine blk_drew ?_ | refine blk_alloc ?_ _)); exact BK342.out)) : gb345 ≠ gb342)); clear BK336; clear BK342; clear HB; have BK336 := n0_; have BK342 := n1_; have HB := n2_; have BK345 := n3_; have GW345 := n4_; have GE345 := n5_; have NB336_345 := n6_; have NB345_336 := n7_; have NB342_345 := n8_; have NB345_342 := n9_; clear n0_ n1_ n2_ n3_ n4_ n5_ n6_ n7_ n8_ n9_; clear hb hbox hg; have hnb18 := NB345_336.out; have hnc18 := NB336_345.out; have hnb19 := NB345_342.out; have hnc19 := NB342_345.out; have hcz20_0 : w17.cell? ⟨gb345, 0, none⟩ = some (.int .i64 0) := (blk_cell BK345.out 0).trans rfl; have hcz20_1 : w17.cell? ⟨gb345, 1, none⟩ = some (.int .i64 0) := (blk_cell BK345.out 1).trans rfl; have hfz20_0 := blk_frozen BK345.out 0; have hfz20_1 := blk_frozen BK345.out 1) | ((with_reducible refine gate_callee (f := 12) rfl ?_); refine goesL_ (some 136) rfl rfl Try.func12 (by kernel_rfl) rfl #[] rfl (by (try simp only [List.map_toArray, List.map_cons, List.map_nil]); first | done | rfl | (simp only [List.length_drop, List.length_take]; rfl)) ?_; (with_reducible refine (penelopelaw18_alive.calls  t346 _ A16.out).mono ?_); rintro e w21 ⟨rfl, hb⟩; refine ⟨_, rfl, ?_⟩; have n0_ := Aside0.mk (blk_below (g := gb336) (o := .cells #[.slice A0_0 l0_0.length c0_0, .int .i64 ji4, .int .i64 a0_2, .int .i64 a0_3] 24 (0, 0)) (by (with_reducible repeat (first | refine blk_drewN ?_ _ | refine blk_drew ?_ | refine blk_alloc ?_ _)); refine blk_far ?_ NB336_345.out _; (with_reducible repeat (first | refine blk_drewN ?_ _ | refine blk_drew ?_ | refine blk_alloc ?_ _)); refine blk_far ?_ NB336_345.out _; (with_reducible repeat (first | refine blk_drewN ?_ _ | refine blk_drew ?_ | refine blk_alloc ?_ _)); exact BK336.out) hb); have n1_ := Aside0.mk (blk_below (g := gb342) (o := .cells #[.int .i64 x343000_1, .int .i64 x343001_1, .int .i64 x343002_1, .int .i64 x343003_1, .string x343004_1] 26 (0, 0)) (by (with_reducible repeat (first | refine blk_drewN ?_ _ | refine blk_drew ?_ | refine blk_alloc ?_ _)); refine blk_far ?_ NB342_345.out _; (with_reducible repeat (first | refine blk_drewN ?_ _ | refine blk_drew ?_ | refine blk_alloc ?_ _)); refine blk_far ?_ NB342_345.out _; (with_reducible repeat (first | refine blk_drewN ?_ _ | refine blk_drew ?_ | refine blk_alloc ?_ _)); exact BK342.out) hb); have n2_ := Aside0.mk (blk_below (g := gb345) (o := .cells #[.int .i64 ((rd_T42 l1 x22_1).f0), .int .i64 ((rd_T42 l1 x22_1).f1)] 42 (0, 0)) (by (with_reducible repeat (first | refine blk_drewN ?_ _ | refine blk_drew ?_ | refine blk_alloc ?_ _)); refine blk_put (cs := #[.int .i64 ((rd_T42 l1 x22_1).f0), .int .i64 0]) ?_ 1 _ rfl; (with_reducible repeat (first | refine blk_drewN ?_ _ | refine blk_drew ?_ | refine blk_alloc ?_ _)); refine blk_put (cs := #[.int .i64 0, .int .i64 0]) ?_ 0 _ rfl; (with_reducible repeat (first | refine blk_drewN ?_ _ | refine blk_drew ?_ | refine blk_alloc ?_ _)); exact BK345.out) hb); have n3_ := Aside0.mk (below_step (by repeat (first | (with_reducible first | exact HB.out | apply below_alloc | apply pw_below_drewN | apply below_drew1 | refine below_set ?_ GE336.out | refine below_set ?_ GE342.out | refine below_set ?_ GE345.out) | exact HB.out)) hb); clear BK336; clear BK342; clear BK345; clear HB; have BK336 := n0_; have BK342 := n1_; have BK345 := n2_; have HB := n3_; clear n0_ n1_ n2_ n3_; (try clear hb); (try clear hb2); (try clear hk); (try clear hi)))
              go_ret
              exact ⟨by first | rfl | (simp [errW_none, errW_some] <;> rfl) | (simp only [← hji3, ← hji4]; first | rfl | (simp [errW_none, errW_some] <;> rfl)) | (simp [*, errW_none, errW_some] <;> rfl), by repeat (first | (with_reducible first | exact HB.out | apply below_alloc | apply pw_below_drewN | apply below_drew1 | refine below_set ?_ GE336.out | refine below_set ?_ GE342.out | refine below_set ?_ GE345.out) | exact HB.out)⟩
            · rw [if_neg c15] at H
              have c15b0 : decide (60 ≤ x22_1) = false := decide_eq_false c15
              clear c15
              obtain ⟨ji22, hji22⟩ : ∃ j_ : Int, (mx ((rd_T42 l1 x22_1).f1) 0) = j_ := ⟨_, rfl⟩
              replace H : (if ((rd_T42 l1 x22_1).f0) = 0 then ((task_Lease.f k1 l0_0 ji4 a0_2 a0_3 x343000_1 x343001_1 x343002_1 x343003_1 x343004_1 (mn (wrap64 (x6_1 + (mn (ji22) 2097152))) 1099511627776) (wrap64 (x22_1 + 1))).bind fun bt348 => (if bt348.2.2.2.2.2 = 0 then (penelopelaw18_TaskLasts.j1 k1 (mn (wrap64 (x6_1 + (mn (ji22) 2097152))) 1099511627776) (wrap64 (x7_1 + 1)) bt348.2.2.2.2.2 l1 (l1.length : Int) x22_1 l0_0 ji4 a0_2 a0_3 x343000_1 x343001_1 x343002_1 x343003_1 x343004_1 bt348.1 bt348.2.1 bt348.2.2.1 bt348.2.2.2.1 bt348.2.2.2.2.1) else (penelopelaw18_TaskLasts.j1 k1 (mn (wrap64 (x6_1 + (mn (ji22) 2097152))) 1099511627776) x7_1 bt348.2.2.2.2.2 l1 (l1.length : Int) x22_1 l0_0 ji4 a0_2 a0_3 x343000_1 x343001_1 x343002_1 x343003_1 x343004_1 bt348.1 bt348.2.1 bt348.2.2.1 bt348.2.2.2.1 bt348.2.2.2.2.1))) else (if ((rd_T42 l1 x22_1).f0) = 1 then ((task_Beat.f k1 l0_0 ji4 a0_2 a0_3 x343000_1 x343001_1 x343002_1 x343003_1 x343004_1 (mn (wrap64 (x6_1 + (mn (ji22) 2097152))) 1099511627776)).bind fun bt354 => (penelopelaw18_TaskLasts.j1 k1 (mn (wrap64 (x6_1 + (mn (ji22) 2097152))) 1099511627776) x7_1 bt354.2.2.2.2.2 l1 (l1.length : Int) x22_1 l0_0 ji4 a0_2 a0_3 x343000_1 x343001_1 x343002_1 x343003_1 x343004_1 bt354.1 bt354.2.1 bt354.2.2.1 bt354.2.2.2.1 bt354.2.2.2.2.1)) else (if ((rd_T42 l1 x22_1).f0) = 2 then ((task_Done.f l0_0 ji4 a0_2 a0_3 x343000_1 x343001_1 x343002_1 x343003_1 x343004_1 (⟨#[114]⟩ : ByteArray)).bind fun bt360 => (penelopelaw18_TaskLasts.j1 k1 (mn (wrap64 (x6_1 + (mn (ji22) 2097152))) 1099511627776) x7_1 bt360.2.2.2.2.2 l1 (l1.length : Int) x22_1 l0_0 ji4 a0_2 a0_3 x343000_1 x343001_1 x343002_1 x343003_1 x343004_1 bt360.1 bt360.2.1 bt360.2.2.1 bt360.2.2.2.1 bt360.2.2.2.2.1)) else (if ((rd_T42 l1 x22_1).f0) = 3 then ((task_Fail.f k1 l0_0 ji4 a0_2 a0_3 x343000_1 x343001_1 x343002_1 x343003_1 x343004_1 (mn (wrap64 (x6_1 + (mn (ji22) 2097152))) 1099511627776)).bind fun bt366 => (penelopelaw18_TaskLasts.j1 k1 (mn (wrap64 (x6_1 + (mn (ji22) 2097152))) 1099511627776) x7_1 bt366.2.2.2.2.2 l1 (l1.length : Int) x22_1 l0_0 ji4 a0_2 a0_3 x343000_1 x343001_1 x343002_1 x343003_1 x343004_1 bt366.1 bt366.2.1 bt366.2.2.1 bt366.2.2.2.1 bt366.2.2.2.2.1)) else (if ((rd_T42 l1 x22_1).f0) = 4 then ((task_Expire.f k1 l0_0 ji4 a0_2 a0_3 x343000_1 x343001_1 x343002_1 x343003_1 x343004_1 (mn (wrap64 (x6_1 + (mn (ji22) 2097152))) 1099511627776)).bind fun bt372 => (penelopelaw18_TaskLasts.j1 k1 (mn (wrap64 (x6_1 + (mn (ji22) 2097152))) 1099511627776) x7_1 0 l1 (l1.length : Int) x22_1 l0_0 ji4 a0_2 a0_3 x343000_1 x343001_1 x343002_1 x343003_1 x343004_1 bt372.1 bt372.2.1 bt372.2.2.1 bt372.2.2.2.1 bt372.2.2.2.2)) else ((task_Cancel.f x343000_1 x343001_1 x343002_1 x343003_1 x343004_1).bind fun bt377 => (penelopelaw18_TaskLasts.j1 k1 (mn (wrap64 (x6_1 + (mn (ji22) 2097152))) 1099511627776) x7_1 0 l1 (l1.length : Int) x22_1 l0_0 ji4 a0_2 a0_3 x343000_1 x343001_1 x343002_1 x343003_1 x343004_1 bt377.1 bt377.2.1 bt377.2.2.1 bt377.2.2.2.1 bt377.2.2.2.2))))))) = some r := by first | (rw [hji22] at H; exact H) | (simp only [hji22] at H ⊢; exact H)
              have hji22_ : (if ((rd_T42 l1 x22_1).f1) < 0 then 0 else ((rd_T42 l1 x22_1).f1)) = ji22 := hji22
              obtain ⟨ji23, hji23⟩ : ∃ j_ : Int, (mn (ji22) 2097152) = j_ := ⟨_, rfl⟩
              replace H : (if ((rd_T42 l1 x22_1).f0) = 0 then ((task_Lease.f k1 l0_0 ji4 a0_2 a0_3 x343000_1 x343001_1 x343002_1 x343003_1 x343004_1 (mn (wrap64 (x6_1 + (ji23))) 1099511627776) (wrap64 (x22_1 + 1))).bind fun bt348 => (if bt348.2.2.2.2.2 = 0 then (penelopelaw18_TaskLasts.j1 k1 (mn (wrap64 (x6_1 + (ji23))) 1099511627776) (wrap64 (x7_1 + 1)) bt348.2.2.2.2.2 l1 (l1.length : Int) x22_1 l0_0 ji4 a0_2 a0_3 x343000_1 x343001_1 x343002_1 x343003_1 x343004_1 bt348.1 bt348.2.1 bt348.2.2.1 bt348.2.2.2.1 bt348.2.2.2.2.1) else (penelopelaw18_TaskLasts.j1 k1 (mn (wrap64 (x6_1 + (ji23))) 1099511627776) x7_1 bt348.2.2.2.2.2 l1 (l1.length : Int) x22_1 l0_0 ji4 a0_2 a0_3 x343000_1 x343001_1 x343002_1 x343003_1 x343004_1 bt348.1 bt348.2.1 bt348.2.2.1 bt348.2.2.2.1 bt348.2.2.2.2.1))) else (if ((rd_T42 l1 x22_1).f0) = 1 then ((task_Beat.f k1 l0_0 ji4 a0_2 a0_3 x343000_1 x343001_1 x343002_1 x343003_1 x343004_1 (mn (wrap64 (x6_1 + (ji23))) 1099511627776)).bind fun bt354 => (penelopelaw18_TaskLasts.j1 k1 (mn (wrap64 (x6_1 + (ji23))) 1099511627776) x7_1 bt354.2.2.2.2.2 l1 (l1.length : Int) x22_1 l0_0 ji4 a0_2 a0_3 x343000_1 x343001_1 x343002_1 x343003_1 x343004_1 bt354.1 bt354.2.1 bt354.2.2.1 bt354.2.2.2.1 bt354.2.2.2.2.1)) else (if ((rd_T42 l1 x22_1).f0) = 2 then ((task_Done.f l0_0 ji4 a0_2 a0_3 x343000_1 x343001_1 x343002_1 x343003_1 x343004_1 (⟨#[114]⟩ : ByteArray)).bind fun bt360 => (penelopelaw18_TaskLasts.j1 k1 (mn (wrap64 (x6_1 + (ji23))) 1099511627776) x7_1 bt360.2.2.2.2.2 l1 (l1.length : Int) x22_1 l0_0 ji4 a0_2 a0_3 x343000_1 x343001_1 x343002_1 x343003_1 x343004_1 bt360.1 bt360.2.1 bt360.2.2.1 bt360.2.2.2.1 bt360.2.2.2.2.1)) else (if ((rd_T42 l1 x22_1).f0) = 3 then ((task_Fail.f k1 l0_0 ji4 a0_2 a0_3 x343000_1 x343001_1 x343002_1 x343003_1 x343004_1 (mn (wrap64 (x6_1 + (ji23))) 1099511627776)).bind fun bt366 => (penelopelaw18_TaskLasts.j1 k1 (mn (wrap64 (x6_1 + (ji23))) 1099511627776) x7_1 bt366.2.2.2.2.2 l1 (l1.length : Int) x22_1 l0_0 ji4 a0_2 a0_3 x343000_1 x343001_1 x343002_1 x343003_1 x343004_1 bt366.1 bt366.2.1 bt366.2.2.1 bt366.2.2.2.1 bt366.2.2.2.2.1)) else (if ((rd_T42 l1 x22_1).f0) = 4 then ((task_Expire.f k1 l0_0 ji4 a0_2 a0_3 x343000_1 x343001_1 x343002_1 x343003_1 x343004_1 (mn (wrap64 (x6_1 + (ji23))) 1099511627776)).bind fun bt372 => (penelopelaw18_TaskLasts.j1 k1 (mn (wrap64 (x6_1 + (ji23))) 1099511627776) x7_1 0 l1 (l1.length : Int) x22_1 l0_0 ji4 a0_2 a0_3 x343000_1 x343001_1 x343002_1 x343003_1 x343004_1 bt372.1 bt372.2.1 bt372.2.2.1 bt372.2.2.2.1 bt372.2.2.2.2)) else ((task_Cancel.f x343000_1 x343001_1 x343002_1 x343003_1 x343004_1).bind fun bt377 => (penelopelaw18_TaskLasts.j1 k1 (mn (wrap64 (x6_1 + (ji23))) 1099511627776) x7_1 0 l1 (l1.length : Int) x22_1 l0_0 ji4 a0_2 a0_3 x343000_1 x343001_1 x343002_1 x343003_1 x343004_1 bt377.1 bt377.2.1 bt377.2.2.1 bt377.2.2.2.1 bt377.2.2.2.2))))))) = some r := by first | (rw [hji23] at H; exact H) | (simp only [hji23] at H ⊢; exact H)
              have hji23_ : (if 2097152 < (ji22) then 2097152 else (ji22)) = ji23 := hji23
              obtain ⟨ji24, hji24⟩ : ∃ j_ : Int, (mn (wrap64 (x6_1 + (ji23))) 1099511627776) = j_ := ⟨_, rfl⟩
              replace H : (if ((rd_T42 l1 x22_1).f0) = 0 then ((task_Lease.f k1 l0_0 ji4 a0_2 a0_3 x343000_1 x343001_1 x343002_1 x343003_1 x343004_1 (ji24) (wrap64 (x22_1 + 1))).bind fun bt348 => (if bt348.2.2.2.2.2 = 0 then (penelopelaw18_TaskLasts.j1 k1 ji24 (wrap64 (x7_1 + 1)) bt348.2.2.2.2.2 l1 (l1.length : Int) x22_1 l0_0 ji4 a0_2 a0_3 x343000_1 x343001_1 x343002_1 x343003_1 x343004_1 bt348.1 bt348.2.1 bt348.2.2.1 bt348.2.2.2.1 bt348.2.2.2.2.1) else (penelopelaw18_TaskLasts.j1 k1 ji24 x7_1 bt348.2.2.2.2.2 l1 (l1.length : Int) x22_1 l0_0 ji4 a0_2 a0_3 x343000_1 x343001_1 x343002_1 x343003_1 x343004_1 bt348.1 bt348.2.1 bt348.2.2.1 bt348.2.2.2.1 bt348.2.2.2.2.1))) else (if ((rd_T42 l1 x22_1).f0) = 1 then ((task_Beat.f k1 l0_0 ji4 a0_2 a0_3 x343000_1 x343001_1 x343002_1 x343003_1 x343004_1 (ji24)).bind fun bt354 => (penelopelaw18_TaskLasts.j1 k1 ji24 x7_1 bt354.2.2.2.2.2 l1 (l1.length : Int) x22_1 l0_0 ji4 a0_2 a0_3 x343000_1 x343001_1 x343002_1 x343003_1 x343004_1 bt354.1 bt354.2.1 bt354.2.2.1 bt354.2.2.2.1 bt354.2.2.2.2.1)) else (if ((rd_T42 l1 x22_1).f0) = 2 then ((task_Done.f l0_0 ji4 a0_2 a0_3 x343000_1 x343001_1 x343002_1 x343003_1 x343004_1 (⟨#[114]⟩ : ByteArray)).bind fun bt360 => (penelopelaw18_TaskLasts.j1 k1 ji24 x7_1 bt360.2.2.2.2.2 l1 (l1.length : Int) x22_1 l0_0 ji4 a0_2 a0_3 x343000_1 x343001_1 x343002_1 x343003_1 x343004_1 bt360.1 bt360.2.1 bt360.2.2.1 bt360.2.2.2.1 bt360.2.2.2.2.1)) else (if ((rd_T42 l1 x22_1).f0) = 3 then ((task_Fail.f k1 l0_0 ji4 a0_2 a0_3 x343000_1 x343001_1 x343002_1 x343003_1 x343004_1 (ji24)).bind fun bt366 => (penelopelaw18_TaskLasts.j1 k1 ji24 x7_1 bt366.2.2.2.2.2 l1 (l1.length : Int) x22_1 l0_0 ji4 a0_2 a0_3 x343000_1 x343001_1 x343002_1 x343003_1 x343004_1 bt366.1 bt366.2.1 bt366.2.2.1 bt366.2.2.2.1 bt366.2.2.2.2.1)) else (if ((rd_T42 l1 x22_1).f0) = 4 then ((task_Expire.f k1 l0_0 ji4 a0_2 a0_3 x343000_1 x343001_1 x343002_1 x343003_1 x343004_1 (ji24)).bind fun bt372 => (penelopelaw18_TaskLasts.j1 k1 ji24 x7_1 0 l1 (l1.length : Int) x22_1 l0_0 ji4 a0_2 a0_3 x343000_1 x343001_1 x343002_1 x343003_1 x343004_1 bt372.1 bt372.2.1 bt372.2.2.1 bt372.2.2.2.1 bt372.2.2.2.2)) else ((task_Cancel.f x343000_1 x343001_1 x343002_1 x343003_1 x343004_1).bind fun bt377 => (penelopelaw18_TaskLasts.j1 k1 ji24 x7_1 0 l1 (l1.length : Int) x22_1 l0_0 ji4 a0_2 a0_3 x343000_1 x343001_1 x343002_1 x343003_1 x343004_1 bt377.1 bt377.2.1 bt377.2.2.1 bt377.2.2.2.1 bt377.2.2.2.2))))))) = some r := by first | (rw [hji24] at H; exact H) | (simp only [hji24] at H ⊢; exact H)
              have hji24_ : (if 1099511627776 < (wrap64 (x6_1 + (ji23))) then 1099511627776 else (wrap64 (x6_1 + (ji23)))) = ji24 := hji24
              have HC25 := Aside0.mk H
              clear H
              have p344 : 0 ≤ (x22_1 : Int) := of_decide_eq_true (by first | (with_reducible assumption) | assumption)
              have q344 : x22_1 < (l1.length : Int) := of_decide_eq_true (by first | (with_reducible assumption) | assumption)
              obtain ⟨ad344, e344, hx344_0, hx344_1⟩ := at_T42 HR1.out x22_1 p344 q344
              cases e344
              replace hx344_0 := (HB.out.cell (World.block_lt_of_cell? w _ hx344_0)).trans hx344_0
              replace hx344_1 := (HB.out.cell (World.block_lt_of_cell? w _ hx344_1)).trans hx344_1
              replace p344 := eq_true p344
              replace q344 := eq_true q344
              go_upto_block 2 with (first | ((with_reducible refine gate_dst (N := 9) rfl ?_); refine box_event ?hg (N := 9) ?hd (cs := #[.int .i64 0, .int .i64 0]) (t := 42) ?hr ?_; (case hd => rfl); (case hg => rfl); (case hr => first | (go_simp; done) | (go_simp; rfl)); intro gb345 hg w26 hbox hb; have n0_ := Aside0.mk (blk_below (g := gb336) (o := .cells #[.slice A0_0 l0_0.length c0_0, .int .i64 ji4, .int .i64 a0_2, .int .i64 a0_3] 24 (0, 0)) (by (with_reducible repeat (first | refine blk_drewN ?_ _ | refine blk_drew ?_ | refine blk_alloc ?_ _)); exact BK336.out) hb); have n1_ := Aside0.mk (blk_below (g := gb342) (o := .cells #[.int .i64 x343000_1, .int .i64 x343001_1, .int .i64 x343002_1, .int .i64 x343003_1, .string x343004_1] 26 (0, 0)) (by (with_reducible repeat (first | refine blk_drewN ?_ _ | refine blk_drew ?_ | refine blk_alloc ?_ _)); exact BK342.out) hb); have n2_ := Aside0.mk (below_step (by repeat (first | (with_reducible first | exact HB.out | apply below_alloc | apply pw_below_drewN | apply below_drew1 | refine below_set ?_ GE336.out | refine below_set ?_ GE342.out) | exact HB.out)) hb); have n3_ := Aside0.mk (hbox); have n4_ := Aside0.mk ((by rw [hg]; exact (below_size (by repeat (first | (with_reducible first | exact HB.out | apply below_alloc | apply pw_below_drewN | apply below_drew1 | refine below_set ?_ GE336.out | refine below_set ?_ GE342.out) | exact HB.out))) : w.heap.size ≤ gb345)); have n5_ := Aside0.mk ((by rw [hg]; exact (below_size (by repeat (first | (with_reducible first | exact HB.out | apply below_alloc | apply pw_below_drewN | apply below_drew1 | refine below_set ?_ GE336.out | refine below_set ?_ GE342.out) | exact HB.out))) : w.heap.size ≤ gb345)); have n6_ := Aside0.mk ((by rw [hg]; exact Nat.ne_of_lt (blk_lt (g := gb336) (o := .cells #[.slice A0_0 l0_0.length c0_0, .int .i64 ji4, .int .i64 a0_2, .int .i64 a0_3] 24 (0, 0)) (by (with_reducible repeat (first | refine blk_drewN ?_ _ | refine blk_drew ?_ | refine blk_alloc ?_ _)); exact BK336.out)) : gb336 ≠ gb345)); have n7_ := Aside0.mk ((by rw [hg]; exact Nat.ne_of_gt (blk_lt (g := gb336) (o := .cells #[.slice A0_0 l0_0.length c0_0, .int .i64 ji4, .int .i64 a0_2, .int .i64 a0_3] 24 (0, 0)) (by (with_reducible repeat (first | refine blk_drewN ?_ _ | refine blk_drew ?_ | refine blk_alloc ?_ _)); exact BK336.out)) : gb345 ≠ gb336)); have n8_ := Aside0.mk ((by rw [hg]; exact Nat.ne_of_lt (blk_lt (g := gb342) (o := .cells #[.int .i64 x343000_1, .int .i64 x343001_1, .int .i64 x343002_1, .int .i64 x343003_1, .string x343004_1] 26 (0, 0)) (by (with_reducible repeat (first | refine blk_drewN ?_ _ | refine blk_drew ?_ | refine blk_alloc ?_ _)); exact BK342.out)) : gb342 ≠ gb345)); have n9_ := Aside0.mk ((by rw [hg]; exact Nat.ne_of_gt (blk_lt (g := gb342) (o := .cells #[.int .i64 x343000_1, .int .i64 x343001_1, .int .i64 x343002_1, .int .i64 x343003_1, .string x343004_1] 26 (0, 0)) (by (with_reducible repeat (first | refine blk_drewN ?_ _ | refine blk_drew ?_ | refine blk_alloc ?_ _)); exact BK342.out)) : gb345 ≠ gb342)); clear BK336; clear BK342; clear HB; have BK336 := n0_; have BK342 := n1_; have HB := n2_; have BK345 := n3_; have GW345 := n4_; have GE345 := n5_; have NB336_345 := n6_; have NB345_336 := n7_; have NB342_345 := n8_; have NB345_342 := n9_; clear n0_ n1_ n2_ n3_ n4_ n5_ n6_ n7_ n8_ n9_; clear hb hbox hg; have hnb27 := NB345_336.out; have hnc27 := NB336_345.out; have hnb28 := NB345_342.out; have hnc28 := NB342_345.out; have hcz29_0 : w26.cell? ⟨gb345, 0, none⟩ = some (.int .i64 0) := (blk_cell BK345.out 0).trans rfl; have hcz29_1 : w26.cell? ⟨gb345, 1, none⟩ = some (.int .i64 0) := (blk_cell BK345.out 1).trans rfl; have hfz29_0 := blk_frozen BK345.out 0; have hfz29_1 := blk_frozen BK345.out 1; have hnb30 := NB342_336.out; have hnc30 := NB336_342.out; have hcz31_0 : w26.cell? ⟨gb342, 0, none⟩ = some (.int .i64 x343000_1) := (blk_cell BK342.out 0).trans rfl; have hcz31_1 : w26.cell? ⟨gb342, 1, none⟩ = some (.int .i64 x343001_1) := (blk_cell BK342.out 1).trans rfl; have hcz31_2 : w26.cell? ⟨gb342, 2, none⟩ = some (.int .i64 x343002_1) := (blk_cell BK342.out 2).trans rfl; have hcz31_3 : w26.cell? ⟨gb342, 3, none⟩ = some (.int .i64 x343003_1) := (blk_cell BK342.out 3).trans rfl; have hcz31_4 : w26.cell? ⟨gb342, 4, none⟩ = some (.string x343004_1) := (blk_cell BK342.out 4).trans rfl; have hfz31_0 := blk_frozen BK342.out 0; have hfz31_1 := blk_frozen BK342.out 1; have hfz31_2 := blk_frozen BK342.out 2; have hfz31_3 := blk_frozen BK342.out 3; have hfz31_4 := blk_frozen BK342.out 4) | ((with_reducible refine gate_dst (N := 10) rfl ?_); refine box_event ?hg (N := 10) ?hd (cs := #[.int .i64 0, .int .i64 0, .int .i64 0, .int .i64 0, .string (⟨#[]⟩ : ByteArray)]) (t := 26) ?hr ?_; (case hd => rfl); (case hg => rfl); (case hr => first | (go_simp; done) | (go_simp; rfl)); intro gb347 hg w32 hbox hb; have n0_ := Aside0.mk (blk_below (g := gb336) (o := .cells #[.slice A0_0 l0_0.length c0_0, .int .i64 ji4, .int .i64 a0_2, .int .i64 a0_3] 24 (0, 0)) (by (with_reducible repeat (first | refine blk_drewN ?_ _ | refine blk_drew ?_ | refine blk_alloc ?_ _)); refine blk_far ?_ NB336_345.out _; (with_reducible repeat (first | refine blk_drewN ?_ _ | refine blk_drew ?_ | refine blk_alloc ?_ _)); refine blk_far ?_ NB336_345.out _; (with_reducible repeat (first | refine blk_drewN ?_ _ | refine blk_drew ?_ | refine blk_alloc ?_ _)); exact BK336.out) hb); have n1_ := Aside0.mk (blk_below (g := gb342) (o := .cells #[.int .i64 x343000_1, .int .i64 x343001_1, .int .i64 x343002_1, .int .i64 x343003_1, .string x343004_1] 26 (0, 0)) (by (with_reducible repeat (first | refine blk_drewN ?_ _ | refine blk_drew ?_ | refine blk_alloc ?_ _)); refine blk_far ?_ NB342_345.out _; (with_reducible repeat (first | refine blk_drewN ?_ _ | refine blk_drew ?_ | refine blk_alloc ?_ _)); refine blk_far ?_ NB342_345.out _; (with_reducible repeat (first | refine blk_drewN ?_ _ | refine blk_drew ?_ | refine blk_alloc ?_ _)); exact BK342.out) hb); have n2_ := Aside0.mk (blk_below (g := gb345) (o := .cells #[.int .i64 ((rd_T42 l1 x22_1).f0), .int .i64 ((rd_T42 l1 x22_1).f1)] 42 (0, 0)) (by (with_reducible repeat (first | refine blk_drewN ?_ _ | refine blk_drew ?_ | refine blk_alloc ?_ _)); refine blk_put (cs := #[.int .i64 ((rd_T42 l1 x22_1).f0), .int .i64 0]) ?_ 1 _ rfl; (with_reducible repeat (first | refine blk_drewN ?_ _ | refine blk_drew ?_ | refine blk_alloc ?_ _)); refine blk_put (cs := #[.int .i64 0, .int .i64 0]) ?_ 0 _ rfl; (with_reducible repeat (first | refine blk_drewN ?_ _ | refine blk_drew ?_ | refine blk_alloc ?_ _)); exact BK345.out) hb); have n3_ := Aside0.mk (below_step (by repeat (first | (with_reducible first | exact HB.out | apply below_alloc | apply pw_below_drewN | apply below_drew1 | refine below_set ?_ GE336.out | refine below_set ?_ GE342.out | refine below_set ?_ GE345.out) | exact HB.out)) hb); have n4_ := Aside0.mk (hbox); have n5_ := Aside0.mk ((by rw [hg]; exact (below_size (by repeat (first | (with_reducible first | exact HB.out | apply below_alloc | apply pw_below_drewN | apply below_drew1 | refine below_set ?_ GE336.out | refine below_set ?_ GE342.out | refine below_set ?_ GE345.out) | exact HB.out))) : w.heap.size ≤ gb347)); have n6_ := Aside0.mk ((by rw [hg]; exact (below_size (by repeat (first | (with_reducible first | exact HB.out | apply below_alloc | apply pw_below_drewN | apply below_drew1 | refine below_set ?_ GE336.out | refine below_set ?_ GE342.out | refine below_set ?_ GE345.out) | exact HB.out))) : w.heap.size ≤ gb347)); have n7_ := Aside0.mk ((by rw [hg]; exact Nat.ne_of_lt (blk_lt (g := gb336) (o := .cells #[.slice A0_0 l0_0.length c0_0, .int .i64 ji4, .int .i64 a0_2, .int .i64 a0_3] 24 (0, 0)) (by (with_reducible repeat (first | refine blk_drewN ?_ _ | refine blk_drew ?_ | refine blk_alloc ?_ _)); refine blk_far ?_ NB336_345.out _; (with_reducible repeat (first | refine blk_drewN ?_ _ | refine blk_drew ?_ | refine blk_alloc ?_ _)); refine blk_far ?_ NB336_345.out _; (with_reducible repeat (first | refine blk_drewN ?_ _ | refine blk_drew ?_ | refine blk_alloc ?_ _)); exact BK336.out)) : gb336 ≠ gb347)); have n8_ := Aside0.mk ((by rw [hg]; exact Nat.ne_of_gt (blk_lt (g := gb336) (o := .cells #[.slice A0_0 l0_0.length c0_0, .int .i64 ji4, .int .i64 a0_2, .int .i64 a0_3] 24 (0, 0)) (by (with_reducible repeat (first | refine blk_drewN ?_ _ | refine blk_drew ?_ | refine blk_alloc ?_ _)); refine blk_far ?_ NB336_345.out _; (with_reducible repeat (first | refine blk_drewN ?_ _ | refine blk_drew ?_ | refine blk_alloc ?_ _)); refine blk_far ?_ NB336_345.out _; (with_reducible repeat (first | refine blk_drewN ?_ _ | refine blk_drew ?_ | refine blk_alloc ?_ _)); exact BK336.out)) : gb347 ≠ gb336)); have n9_ := Aside0.mk ((by rw [hg]; exact Nat.ne_of_lt (blk_lt (g := gb342) (o := .cells #[.int .i64 x343000_1, .int .i64 x343001_1, .int .i64 x343002_1, .int .i64 x343003_1, .string x343004_1] 26 (0, 0)) (by (with_reducible repeat (first | refine blk_drewN ?_ _ | refine blk_drew ?_ | refine blk_alloc ?_ _)); refine blk_far ?_ NB342_345.out _; (with_reducible repeat (first | refine blk_drewN ?_ _ | refine blk_drew ?_ | refine blk_alloc ?_ _)); refine blk_far ?_ NB342_345.out _; (with_reducible repeat (first | refine blk_drewN ?_ _ | refine blk_drew ?_ | refine blk_alloc ?_ _)); exact BK342.out)) : gb342 ≠ gb347)); have n10_ := Aside0.mk ((by rw [hg]; exact Nat.ne_of_gt (blk_lt (g := gb342) (o := .cells #[.int .i64 x343000_1, .int .i64 x343001_1, .int .i64 x343002_1, .int .i64 x343003_1, .string x343004_1] 26 (0, 0)) (by (with_reducible repeat (first | refine blk_drewN ?_ _ | refine blk_drew ?_ | refine blk_alloc ?_ _)); refine blk_far ?_ NB342_345.out _; (with_reducible repeat (first | refine blk_drewN ?_ _ | refine blk_drew ?_ | refine blk_alloc ?_ _)); refine blk_far ?_ NB342_345.out _; (with_reducible repeat (first | refine blk_drewN ?_ _ | refine blk_drew ?_ | refine blk_alloc ?_ _)); exact BK342.out)) : gb347 ≠ gb342)); have n11_ := Aside0.mk ((by rw [hg]; exact Nat.ne_of_lt (blk_lt (g := gb345) (o := .cells #[.int .i64 ((rd_T42 l1 x22_1).f0), .int .i64 ((rd_T42 l1 x22_1).f1)] 42 (0, 0)) (by (with_reducible repeat (first | refine blk_drewN ?_ _ | refine blk_drew ?_ | refine blk_alloc ?_ _)); refine blk_put (cs := #[.int .i64 ((rd_T42 l1 x22_1).f0), .int .i64 0]) ?_ 1 _ rfl; (with_reducible repeat (first | refine blk_drewN ?_ _ | refine blk_drew ?_ | refine blk_alloc ?_ _)); refine blk_put (cs := #[.int .i64 0, .int .i64 0]) ?_ 0 _ rfl; (with_reducible repeat (first | refine blk_drewN ?_ _ | refine blk_drew ?_ | refine blk_alloc ?_ _)); exact BK345.out)) : gb345 ≠ gb347)); have n12_ := Aside0.mk ((by rw [hg]; exact Nat.ne_of_gt (blk_lt (g := gb345) (o := .cells #[.int .i64 ((rd_T42 l1 x22_1).f0), .int .i64 ((rd_T42 l1 x22_1).f1)] 42 (0, 0)) (by (with_reducible repeat (first | refine blk_drewN ?_ _ | refine blk_drew ?_ | refine blk_alloc ?_ _)); refine blk_put (cs := #[.int .i64 ((rd_T42 l1 x22_1).f0), .int .i64 0]) ?_ 1 _ rfl; (with_reducible repeat (first | refine blk_drewN ?_ _ | refine blk_drew ?_ | refine blk_alloc ?_ _)); refine blk_put (cs := #[.int .i64 0, .int .i64 0]) ?_ 0 _ rfl; (with_reducible repeat (first | refine blk_drewN ?_ _ | refine blk_drew ?_ | refine blk_alloc ?_ _)); exact BK345.out)) : gb347 ≠ gb345)); clear BK336; clear BK342; clear BK345; clear HB; have BK336 := n0_; have BK342 := n1_; have BK345 := n2_; have HB := n3_; have BK347 := n4_; have GW347 := n5_; have GE347 := n6_; have NB336_347 := n7_; have NB347_336 := n8_; have NB342_347 := n9_; have NB347_342 := n10_; have NB345_347 := n11_; have NB347_345 := n12_; clear n0_ n1_ n2_ n3_ n4_ n5_ n6_ n7_ n8_ n9_ n10_ n11_ n12_; clear hb hbox hg; have hnb33 := NB347_336.out; have hnc33 := NB336_347.out; have hnb34 := NB347_342.out; have hnc34 := NB342_347.out; have hnb35 := NB347_345.out; have hnc35 := NB345_347.out; have hcz36_0 : w32.cell? ⟨gb347, 0, none⟩ = some (.int .i64 0) := (blk_cell BK347.out 0).trans rfl; have hcz36_1 : w32.cell? ⟨gb347, 1, none⟩ = some (.int .i64 0) := (blk_cell BK347.out 1).trans rfl; have hcz36_2 : w32.cell? ⟨gb347, 2, none⟩ = some (.int .i64 0) := (blk_cell BK347.out 2).trans rfl; have hcz36_3 : w32.cell? ⟨gb347, 3, none⟩ = some (.int .i64 0) := (blk_cell BK347.out 3).trans rfl; have hcz36_4 : w32.cell? ⟨gb347, 4, none⟩ = some (.string (⟨#[]⟩ : ByteArray)) := (blk_cell BK347.out 4).trans rfl; have hfz36_0 := blk_frozen BK347.out 0; have hfz36_1 := blk_frozen BK347.out 1; have hfz36_2 := blk_frozen BK347.out 2; have hfz36_3 := blk_frozen BK347.out 3; have hfz36_4 := blk_frozen BK347.out 4; have hcz37_0 : w32.cell? ⟨gb345, 0, none⟩ = some (.int .i64 ((rd_T42 l1 x22_1).f0)) := (blk_cell BK345.out 0).trans rfl; have hcz37_1 : w32.cell? ⟨gb345, 1, none⟩ = some (.int .i64 ((rd_T42 l1 x22_1).f1)) := (blk_cell BK345.out 1).trans rfl; have hfz37_0 := blk_frozen BK345.out 0; have hfz37_1 := blk_frozen BK345.out 1))
              (try simp only [Act.put, List.setIfInBounds_toArray, List.set_cons_zero, List.set_cons_succ])
              go_cut [7, 11] (fun v7 v11 wc => ∃ (kq : Nat) (x7_24 : Int) (x11_24 : Int) (x348000_24 : Int) (x348001_24 : Int) (x348002_24 : Int) (x348003_24 : Int) (x348004_24 : ByteArray), v7 = .int .i64 x7_24 ∧ v11 = .int .i64 x11_24 ∧ Aside0 (penelopelaw18_TaskLasts.j1 kq ji24 x7_24 x11_24 l1 (l1.length : Int) x22_1 l0_0 ji4 a0_2 a0_3 x343000_1 x343001_1 x343002_1 x343003_1 x343004_1 x348000_24 x348001_24 x348002_24 x348003_24 x348004_24 = some r) ∧ Aside0 (kq ≤ k1) ∧ Aside0 (wc.heap[gb336]? = some (.cells #[(.slice A0_0 l0_0.length c0_0), .int .i64 ji4, .int .i64 a0_2, .int .i64 a0_3] 24 (0, 0))) ∧ Aside0 (wc.heap[gb342]? = some (.cells #[.int .i64 x343000_1, .int .i64 x343001_1, .int .i64 x343002_1, .int .i64 x343003_1, .string x343004_1] 26 (0, 0))) ∧ Aside0 (wc.heap[gb345]? = some (.cells #[.int .i64 ((rd_T42 l1 x22_1).f0), .int .i64 ((rd_T42 l1 x22_1).f1)] 42 (0, 0))) ∧ Aside0 (wc.heap[gb347]? = some (.cells #[.int .i64 x348000_24, .int .i64 x348001_24, .int .i64 x348002_24, .int .i64 x348003_24, .string x348004_24] 26 (0, 0))) ∧ Aside0 (Below w.heap.size w wc))
              case first =>
                have H := HC25.out
                clear HC25
                by_cases c38 : ((rd_T42 l1 x22_1).f0) = 0
                · rw [if_pos c38] at H
                  have c38b0 : (((rd_T42 l1 x22_1).f0) == 0) = true := beq_iff_eq.mpr c38
                  have c38b1 : (((rd_T42 l1 x22_1).f0) != 0) = false := bne_eq_false_iff_eq.mpr c38
                  clear c38
                  (first | rw [c38b0] | (simp only [i64_w, i32_w]; rw [c38b0]) | skip)
                  replace H := Option.bind_eq_some_iff.mp H
                  obtain ⟨⟨t348, t349, t350, t351, t352, t353⟩, A390, H⟩ := H
                  replace H : (if t353 = 0 then (penelopelaw18_TaskLasts.j1 k1 ji24 (wrap64 (x7_1 + 1)) t353 l1 (l1.length : Int) x22_1 l0_0 ji4 a0_2 a0_3 x343000_1 x343001_1 x343002_1 x343003_1 x343004_1 t348 t349 t350 t351 t352) else (penelopelaw18_TaskLasts.j1 k1 ji24 x7_1 t353 l1 (l1.length : Int) x22_1 l0_0 ji4 a0_2 a0_3 x343000_1 x343001_1 x343002_1 x343003_1 x343004_1 t348 t349 t350 t351 t352)) = some r := H
                  have A39 := Aside0.mk A390
                  clear A390
                  by_cases c40 : t353 = 0
                  · rw [if_pos c40] at H
                    have c40b0 : (t353 == 0) = true := beq_iff_eq.mpr c40
                    have c40b1 : (t353 != 0) = false := bne_eq_false_iff_eq.mpr c40
                    clear c40
                    have H' := Aside0.mk H
                    clear H
                    have hnb41 := NB336_342.out
                    have hnc41 := NB342_336.out
                    have hnb42 := NB336_345.out
                    have hnc42 := NB345_336.out
                    have hnb43 := NB336_347.out
                    have hnc43 := NB347_336.out
                    have hcz44_0 : w32.cell? ⟨gb336, 0, none⟩ = some (.slice A0_0 l0_0.length c0_0) := (blk_cell BK336.out 0).trans rfl
                    have hcz44_1 : w32.cell? ⟨gb336, 1, none⟩ = some (.int .i64 ji4) := (blk_cell BK336.out 1).trans rfl
                    have hcz44_2 : w32.cell? ⟨gb336, 2, none⟩ = some (.int .i64 a0_2) := (blk_cell BK336.out 2).trans rfl
                    have hcz44_3 : w32.cell? ⟨gb336, 3, none⟩ = some (.int .i64 a0_3) := (blk_cell BK336.out 3).trans rfl
                    have hfz44_0 := blk_frozen BK336.out 0
                    have hfz44_1 := blk_frozen BK336.out 1
                    have hfz44_2 := blk_frozen BK336.out 2
                    have hfz44_3 := blk_frozen BK336.out 3
                    have hnb45 := NB342_345.out
                    have hnc45 := NB345_342.out
                    have hnb46 := NB342_347.out
                    have hnc46 := NB347_342.out
                    have hcz47_0 : w32.cell? ⟨gb342, 0, none⟩ = some (.int .i64 x343000_1) := (blk_cell BK342.out 0).trans rfl
                    have hcz47_1 : w32.cell? ⟨gb342, 1, none⟩ = some (.int .i64 x343001_1) := (blk_cell BK342.out 1).trans rfl
                    have hcz47_2 : w32.cell? ⟨gb342, 2, none⟩ = some (.int .i64 x343002_1) := (blk_cell BK342.out 2).trans rfl
                    have hcz47_3 : w32.cell? ⟨gb342, 3, none⟩ = some (.int .i64 x343003_1) := (blk_cell BK342.out 3).trans rfl
                    have hcz47_4 : w32.cell? ⟨gb342, 4, none⟩ = some (.string x343004_1) := (blk_cell BK342.out 4).trans rfl
                    have hfz47_0 := blk_frozen BK342.out 0
                    have hfz47_1 := blk_frozen BK342.out 1
                    have hfz47_2 := blk_frozen BK342.out 2
                    have hfz47_3 := blk_frozen BK342.out 3
                    have hfz47_4 := blk_frozen BK342.out 4
                    go_wp2_with (first | ((with_reducible refine gate_callee (f := 10) rfl ?_); refine goesL_ (some 49) rfl rfl Try.func10 (by kernel_rfl) rfl #[.agg #[.slice A0_0 l0_0.length c0_0, .int .i64 ji4, .int .i64 a0_2, .int .i64 a0_3], .agg #[.int .i64 x343000_1, .int .i64 x343001_1, .int .i64 x343002_1, .int .i64 x343003_1, .string x343004_1], .int .i64 ji24, .int .i64 (wrap64 (x22_1 + 1))] rfl (by (try simp only [List.map_toArray, List.map_cons, List.map_nil]); first | done | (simp only [hji24, hji4]; rfl) | rfl | (simp only [List.length_drop, List.length_take]; rfl)) ?_; (with_reducible refine (task_Lease.calls k1 _ _ l0_0 ji4 a0_2 a0_3 x343000_1 x343001_1 x343002_1 x343003_1 x343004_1 ji24 (wrap64 (x22_1 + 1)) t348 t349 t350 t351 t352 t353 _ ?side1 ?side2 A39.out).mono ?_); (case side1 => exact Kd.C_below HR0_0.out (by repeat (first | (with_reducible first | exact HB.out | apply below_alloc | apply pw_below_drewN | apply below_drew1 | refine below_set ?_ GE336.out | refine below_set ?_ GE342.out | refine below_set ?_ GE345.out | refine below_set ?_ GE347.out) | exact HB.out))); (case side2 => exact HC0_0.out); rintro e w48 ⟨rfl, hb⟩; refine ⟨_, rfl, ?_⟩; have n0_ := Aside0.mk (blk_below (g := gb336) (o := .cells #[.slice A0_0 l0_0.length c0_0, .int .i64 ji4, .int .i64 a0_2, .int .i64 a0_3] 24 (0, 0)) (by (with_reducible repeat (first | refine blk_drewN ?_ _ | refine blk_drew ?_ | refine blk_alloc ?_ _)); refine blk_far ?_ NB336_347.out _; (with_reducible repeat (first | refine blk_drewN ?_ _ | refine blk_drew ?_ | refine blk_alloc ?_ _)); refine blk_far ?_ NB336_347.out _; (with_reducible repeat (first | refine blk_drewN ?_ _ | refine blk_drew ?_ | refine blk_alloc ?_ _)); refine blk_far ?_ NB336_347.out _; (with_reducible repeat (first | refine blk_drewN ?_ _ | refine blk_drew ?_ | refine blk_alloc ?_ _)); refine blk_far ?_ NB336_347.out _; (with_reducible repeat (first | refine blk_drewN ?_ _ | refine blk_drew ?_ | refine blk_alloc ?_ _)); refine blk_far ?_ NB336_347.out _; (with_reducible repeat (first | refine blk_drewN ?_ _ | refine blk_drew ?_ | refine blk_alloc ?_ _)); exact BK336.out) hb); have n1_ := Aside0.mk (blk_below (g := gb342) (o := .cells #[.int .i64 x343000_1, .int .i64 x343001_1, .int .i64 x343002_1, .int .i64 x343003_1, .string x343004_1] 26 (0, 0)) (by (with_reducible repeat (first | refine blk_drewN ?_ _ | refine blk_drew ?_ | refine blk_alloc ?_ _)); refine blk_far ?_ NB342_347.out _; (with_reducible repeat (first | refine blk_drewN ?_ _ | refine blk_drew ?_ | refine blk_alloc ?_ _)); refine blk_far ?_ NB342_347.out _; (with_reducible repeat (first | refine blk_drewN ?_ _ | refine blk_drew ?_ | refine blk_alloc ?_ _)); refine blk_far ?_ NB342_347.out _; (with_reducible repeat (first | refine blk_drewN ?_ _ | refine blk_drew ?_ | refine blk_alloc ?_ _)); refine blk_far ?_ NB342_347.out _; (with_reducible repeat (first | refine blk_drewN ?_ _ | refine blk_drew ?_ | refine blk_alloc ?_ _)); refine blk_far ?_ NB342_347.out _; (with_reducible repeat (first | refine blk_drewN ?_ _ | refine blk_drew ?_ | refine blk_alloc ?_ _)); exact BK342.out) hb); have n2_ := Aside0.mk (blk_below (g := gb345) (o := .cells #[.int .i64 ((rd_T42 l1 x22_1).f0), .int .i64 ((rd_T42 l1 x22_1).f1)] 42 (0, 0)) (by (with_reducible repeat (first | refine blk_drewN ?_ _ | refine blk_drew ?_ | refine blk_alloc ?_ _)); refine blk_far ?_ NB345_347.out _; (with_reducible repeat (first | refine blk_drewN ?_ _ | refine blk_drew ?_ | refine blk_alloc ?_ _)); refine blk_far ?_ NB345_347.out _; (with_reducible repeat (first | refine blk_drewN ?_ _ | refine blk_drew ?_ | refine blk_alloc ?_ _)); refine blk_far ?_ NB345_347.out _; (with_reducible repeat (first | refine blk_drewN ?_ _ | refine blk_drew ?_ | refine blk_alloc ?_ _)); refine blk_far ?_ NB345_347.out _; (with_reducible repeat (first | refine blk_drewN ?_ _ | refine blk_drew ?_ | refine blk_alloc ?_ _)); refine blk_far ?_ NB345_347.out _; (with_reducible repeat (first | refine blk_drewN ?_ _ | refine blk_drew ?_ | refine blk_alloc ?_ _)); exact BK345.out) hb); have n3_ := Aside0.mk (blk_below (g := gb347) (o := .cells #[.int .i64 x343000_1, .int .i64 x343001_1, .int .i64 x343002_1, .int .i64 x343003_1, .string x343004_1] 26 (0, 0)) (by (with_reducible repeat (first | refine blk_drewN ?_ _ | refine blk_drew ?_ | refine blk_alloc ?_ _)); refine blk_put (cs := #[.int .i64 x343000_1, .int .i64 x343001_1, .int .i64 x343002_1, .int .i64 x343003_1, .string (⟨#[]⟩ : ByteArray)]) ?_ 4 _ rfl; (with_reducible repeat (first | refine blk_drewN ?_ _ | refine blk_drew ?_ | refine blk_alloc ?_ _)); refine blk_put (cs := #[.int .i64 x343000_1, .int .i64 x343001_1, .int .i64 x343002_1, .int .i64 0, .string (⟨#[]⟩ : ByteArray)]) ?_ 3 _ rfl; (with_reducible repeat (first | refine blk_drewN ?_ _ | refine blk_drew ?_ | refine blk_alloc ?_ _)); refine blk_put (cs := #[.int .i64 x343000_1, .int .i64 x343001_1, .int .i64 0, .int .i64 0, .string (⟨#[]⟩ : ByteArray)]) ?_ 2 _ rfl; (with_reducible repeat (first | refine blk_drewN ?_ _ | refine blk_drew ?_ | refine blk_alloc ?_ _)); refine blk_put (cs := #[.int .i64 x343000_1, .int .i64 0, .int .i64 0, .int .i64 0, .string (⟨#[]⟩ : ByteArray)]) ?_ 1 _ rfl; (with_reducible repeat (first | refine blk_drewN ?_ _ | refine blk_drew ?_ | refine blk_alloc ?_ _)); refine blk_put (cs := #[.int .i64 0, .int .i64 0, .int .i64 0, .int .i64 0, .string (⟨#[]⟩ : ByteArray)]) ?_ 0 _ rfl; (with_reducible repeat (first | refine blk_drewN ?_ _ | refine blk_drew ?_ | refine blk_alloc ?_ _)); exact BK347.out) hb); have n4_ := Aside0.mk (below_step (by repeat (first | (with_reducible first | exact HB.out | apply below_alloc | apply pw_below_drewN | apply below_drew1 | refine below_set ?_ GE336.out | refine below_set ?_ GE342.out | refine below_set ?_ GE345.out | refine below_set ?_ GE347.out) | exact HB.out)) hb); clear BK336; clear BK342; clear BK345; clear BK347; clear HB; have BK336 := n0_; have BK342 := n1_; have BK345 := n2_; have BK347 := n3_; have HB := n4_; clear n0_ n1_ n2_ n3_ n4_; (try clear hb); (try clear hb2); (try clear hk); (try clear hi); have hnb49 := NB347_345.out; have hnc49 := NB345_347.out; have hcz50_0 : w48.cell? ⟨gb347, 0, none⟩ = some (.int .i64 x343000_1) := (blk_cell BK347.out 0).trans rfl; have hcz50_1 : w48.cell? ⟨gb347, 1, none⟩ = some (.int .i64 x343001_1) := (blk_cell BK347.out 1).trans rfl; have hcz50_2 : w48.cell? ⟨gb347, 2, none⟩ = some (.int .i64 x343002_1) := (blk_cell BK347.out 2).trans rfl; have hcz50_3 : w48.cell? ⟨gb347, 3, none⟩ = some (.int .i64 x343003_1) := (blk_cell BK347.out 3).trans rfl; have hcz50_4 : w48.cell? ⟨gb347, 4, none⟩ = some (.string x343004_1) := (blk_cell BK347.out 4).trans rfl; have hfz50_0 := blk_frozen BK347.out 0; have hfz50_1 := blk_frozen BK347.out 1; have hfz50_2 := blk_frozen BK347.out 2; have hfz50_3 := blk_frozen BK347.out 3; have hfz50_4 := blk_frozen BK347.out 4))
                    go_meet
                    case rel => exact ⟨_, (wrap64 (x7_1 + 1)), (t353), (t348), (t349), (t350), (t351), (t352), (by first | rfl | (simp; done) | (simp [*]; done)), (by first | rfl | (simp; done) | (simp [*]; done)), H', ⟨by have := HK1.out; first | omega | exact Nat.le_refl _⟩, ⟨by (with_reducible repeat (first | refine blk_drewN ?_ _ | refine blk_drew ?_ | refine blk_alloc ?_ _)); refine blk_far ?_ NB336_347.out _; (with_reducible repeat (first | refine blk_drewN ?_ _ | refine blk_drew ?_ | refine blk_alloc ?_ _)); refine blk_far ?_ NB336_347.out _; (with_reducible repeat (first | refine blk_drewN ?_ _ | refine blk_drew ?_ | refine blk_alloc ?_ _)); refine blk_far ?_ NB336_347.out _; (with_reducible repeat (first | refine blk_drewN ?_ _ | refine blk_drew ?_ | refine blk_alloc ?_ _)); refine blk_far ?_ NB336_347.out _; (with_reducible repeat (first | refine blk_drewN ?_ _ | refine blk_drew ?_ | refine blk_alloc ?_ _)); refine blk_far ?_ NB336_347.out _; (with_reducible repeat (first | refine blk_drewN ?_ _ | refine blk_drew ?_ | refine blk_alloc ?_ _)); exact BK336.out⟩, ⟨by (with_reducible repeat (first | refine blk_drewN ?_ _ | refine blk_drew ?_ | refine blk_alloc ?_ _)); refine blk_far ?_ NB342_347.out _; (with_reducible repeat (first | refine blk_drewN ?_ _ | refine blk_drew ?_ | refine blk_alloc ?_ _)); refine blk_far ?_ NB342_347.out _; (with_reducible repeat (first | refine blk_drewN ?_ _ | refine blk_drew ?_ | refine blk_alloc ?_ _)); refine blk_far ?_ NB342_347.out _; (with_reducible repeat (first | refine blk_drewN ?_ _ | refine blk_drew ?_ | refine blk_alloc ?_ _)); refine blk_far ?_ NB342_347.out _; (with_reducible repeat (first | refine blk_drewN ?_ _ | refine blk_drew ?_ | refine blk_alloc ?_ _)); refine blk_far ?_ NB342_347.out _; (with_reducible repeat (first | refine blk_drewN ?_ _ | refine blk_drew ?_ | refine blk_alloc ?_ _)); exact BK342.out⟩, ⟨by (with_reducible repeat (first | refine blk_drewN ?_ _ | refine blk_drew ?_ | refine blk_alloc ?_ _)); refine blk_far ?_ NB345_347.out _; (with_reducible repeat (first | refine blk_drewN ?_ _ | refine blk_drew ?_ | refine blk_alloc ?_ _)); refine blk_far ?_ NB345_347.out _; (with_reducible repeat (first | refine blk_drewN ?_ _ | refine blk_drew ?_ | refine blk_alloc ?_ _)); refine blk_far ?_ NB345_347.out _; (with_reducible repeat (first | refine blk_drewN ?_ _ | refine blk_drew ?_ | refine blk_alloc ?_ _)); refine blk_far ?_ NB345_347.out _; (with_reducible repeat (first | refine blk_drewN ?_ _ | refine blk_drew ?_ | refine blk_alloc ?_ _)); refine blk_far ?_ NB345_347.out _; (with_reducible repeat (first | refine blk_drewN ?_ _ | refine blk_drew ?_ | refine blk_alloc ?_ _)); exact BK345.out⟩, ⟨by (with_reducible repeat (first | refine blk_drewN ?_ _ | refine blk_drew ?_ | refine blk_alloc ?_ _)); refine blk_put (cs := #[.int .i64 t348, .int .i64 t349, .int .i64 t350, .int .i64 t351, .string x343004_1]) ?_ 4 _ rfl; (with_reducible repeat (first | refine blk_drewN ?_ _ | refine blk_drew ?_ | refine blk_alloc ?_ _)); refine blk_put (cs := #[.int .i64 t348, .int .i64 t349, .int .i64 t350, .int .i64 x343003_1, .string x343004_1]) ?_ 3 _ rfl; (with_reducible repeat (first | refine blk_drewN ?_ _ | refine blk_drew ?_ | refine blk_alloc ?_ _)); refine blk_put (cs := #[.int .i64 t348, .int .i64 t349, .int .i64 x343002_1, .int .i64 x343003_1, .string x343004_1]) ?_ 2 _ rfl; (with_reducible repeat (first | refine blk_drewN ?_ _ | refine blk_drew ?_ | refine blk_alloc ?_ _)); refine blk_put (cs := #[.int .i64 t348, .int .i64 x343001_1, .int .i64 x343002_1, .int .i64 x343003_1, .string x343004_1]) ?_ 1 _ rfl; (with_reducible repeat (first | refine blk_drewN ?_ _ | refine blk_drew ?_ | refine blk_alloc ?_ _)); refine blk_put (cs := #[.int .i64 x343000_1, .int .i64 x343001_1, .int .i64 x343002_1, .int .i64 x343003_1, .string x343004_1]) ?_ 0 _ rfl; (with_reducible repeat (first | refine blk_drewN ?_ _ | refine blk_drew ?_ | refine blk_alloc ?_ _)); exact BK347.out⟩, ⟨by repeat (first | (with_reducible first | exact HB.out | apply below_alloc | apply pw_below_drewN | apply below_drew1 | refine below_set ?_ GE336.out | refine below_set ?_ GE342.out | refine below_set ?_ GE345.out | refine below_set ?_ GE347.out) | exact HB.out)⟩⟩
                  · rw [if_neg c40] at H
                    have c40b0 : (t353 == 0) = false := beq_eq_false_iff_ne.mpr c40
                    have c40b1 : (t353 != 0) = true := bne_iff_ne.mpr c40
                    have H' := Aside0.mk H
                    clear H
                    have hnb51 := NB336_342.out
                    have hnc51 := NB342_336.out
                    have hnb52 := NB336_345.out
                    have hnc52 := NB345_336.out
                    have hnb53 := NB336_347.out
                    have hnc53 := NB347_336.out
                    have hcz54_0 : w32.cell? ⟨gb336, 0, none⟩ = some (.slice A0_0 l0_0.length c0_0) := (blk_cell BK336.out 0).trans rfl
                    have hcz54_1 : w32.cell? ⟨gb336, 1, none⟩ = some (.int .i64 ji4) := (blk_cell BK336.out 1).trans rfl
                    have hcz54_2 : w32.cell? ⟨gb336, 2, none⟩ = some (.int .i64 a0_2) := (blk_cell BK336.out 2).trans rfl
                    have hcz54_3 : w32.cell? ⟨gb336, 3, none⟩ = some (.int .i64 a0_3) := (blk_cell BK336.out 3).trans rfl
                    have hfz54_0 := blk_frozen BK336.out 0
                    have hfz54_1 := blk_frozen BK336.out 1
                    have hfz54_2 := blk_frozen BK336.out 2
                    have hfz54_3 := blk_frozen BK336.out 3
                    have hnb55 := NB342_345.out
                    have hnc55 := NB345_342.out
                    have hnb56 := NB342_347.out
                    have hnc56 := NB347_342.out
                    have hcz57_0 : w32.cell? ⟨gb342, 0, none⟩ = some (.int .i64 x343000_1) := (blk_cell BK342.out 0).trans rfl
                    have hcz57_1 : w32.cell? ⟨gb342, 1, none⟩ = some (.int .i64 x343001_1) := (blk_cell BK342.out 1).trans rfl
                    have hcz57_2 : w32.cell? ⟨gb342, 2, none⟩ = some (.int .i64 x343002_1) := (blk_cell BK342.out 2).trans rfl
                    have hcz57_3 : w32.cell? ⟨gb342, 3, none⟩ = some (.int .i64 x343003_1) := (blk_cell BK342.out 3).trans rfl
                    have hcz57_4 : w32.cell? ⟨gb342, 4, none⟩ = some (.string x343004_1) := (blk_cell BK342.out 4).trans rfl
                    have hfz57_0 := blk_frozen BK342.out 0
                    have hfz57_1 := blk_frozen BK342.out 1
                    have hfz57_2 := blk_frozen BK342.out 2
                    have hfz57_3 := blk_frozen BK342.out 3
                    have hfz57_4 := blk_frozen BK342.out 4
                    go_wp2_with (first | ((with_reducible refine gate_callee (f := 10) rfl ?_); refine goesL_ (some 49) rfl rfl Try.func10 (by kernel_rfl) rfl #[.agg #[.slice A0_0 l0_0.length c0_0, .int .i64 ji4, .int .i64 a0_2, .int .i64 a0_3], .agg #[.int .i64 x343000_1, .int .i64 x343001_1, .int .i64 x343002_1, .int .i64 x343003_1, .string x343004_1], .int .i64 ji24, .int .i64 (wrap64 (x22_1 + 1))] rfl (by (try simp only [List.map_toArray, List.map_cons, List.map_nil]); first | done | (simp only [hji24, hji4]; rfl) | rfl | (simp only [List.length_drop, List.length_take]; rfl)) ?_; (with_reducible refine (task_Lease.calls k1 _ _ l0_0 ji4 a0_2 a0_3 x343000_1 x343001_1 x343002_1 x343003_1 x343004_1 ji24 (wrap64 (x22_1 + 1)) t348 t349 t350 t351 t352 t353 _ ?side1 ?side2 A39.out).mono ?_); (case side1 => exact Kd.C_below HR0_0.out (by repeat (first | (with_reducible first | exact HB.out | apply below_alloc | apply pw_below_drewN | apply below_drew1 | refine below_set ?_ GE336.out | refine below_set ?_ GE342.out | refine below_set ?_ GE345.out | refine below_set ?_ GE347.out) | exact HB.out))); (case side2 => exact HC0_0.out); rintro e w58 ⟨rfl, hb⟩; refine ⟨_, rfl, ?_⟩; have n0_ := Aside0.mk (blk_below (g := gb336) (o := .cells #[.slice A0_0 l0_0.length c0_0, .int .i64 ji4, .int .i64 a0_2, .int .i64 a0_3] 24 (0, 0)) (by (with_reducible repeat (first | refine blk_drewN ?_ _ | refine blk_drew ?_ | refine blk_alloc ?_ _)); refine blk_far ?_ NB336_347.out _; (with_reducible repeat (first | refine blk_drewN ?_ _ | refine blk_drew ?_ | refine blk_alloc ?_ _)); refine blk_far ?_ NB336_347.out _; (with_reducible repeat (first | refine blk_drewN ?_ _ | refine blk_drew ?_ | refine blk_alloc ?_ _)); refine blk_far ?_ NB336_347.out _; (with_reducible repeat (first | refine blk_drewN ?_ _ | refine blk_drew ?_ | refine blk_alloc ?_ _)); refine blk_far ?_ NB336_347.out _; (with_reducible repeat (first | refine blk_drewN ?_ _ | refine blk_drew ?_ | refine blk_alloc ?_ _)); refine blk_far ?_ NB336_347.out _; (with_reducible repeat (first | refine blk_drewN ?_ _ | refine blk_drew ?_ | refine blk_alloc ?_ _)); exact BK336.out) hb); have n1_ := Aside0.mk (blk_below (g := gb342) (o := .cells #[.int .i64 x343000_1, .int .i64 x343001_1, .int .i64 x343002_1, .int .i64 x343003_1, .string x343004_1] 26 (0, 0)) (by (with_reducible repeat (first | refine blk_drewN ?_ _ | refine blk_drew ?_ | refine blk_alloc ?_ _)); refine blk_far ?_ NB342_347.out _; (with_reducible repeat (first | refine blk_drewN ?_ _ | refine blk_drew ?_ | refine blk_alloc ?_ _)); refine blk_far ?_ NB342_347.out _; (with_reducible repeat (first | refine blk_drewN ?_ _ | refine blk_drew ?_ | refine blk_alloc ?_ _)); refine blk_far ?_ NB342_347.out _; (with_reducible repeat (first | refine blk_drewN ?_ _ | refine blk_drew ?_ | refine blk_alloc ?_ _)); refine blk_far ?_ NB342_347.out _; (with_reducible repeat (first | refine blk_drewN ?_ _ | refine blk_drew ?_ | refine blk_alloc ?_ _)); refine blk_far ?_ NB342_347.out _; (with_reducible repeat (first | refine blk_drewN ?_ _ | refine blk_drew ?_ | refine blk_alloc ?_ _)); exact BK342.out) hb); have n2_ := Aside0.mk (blk_below (g := gb345) (o := .cells #[.int .i64 ((rd_T42 l1 x22_1).f0), .int .i64 ((rd_T42 l1 x22_1).f1)] 42 (0, 0)) (by (with_reducible repeat (first | refine blk_drewN ?_ _ | refine blk_drew ?_ | refine blk_alloc ?_ _)); refine blk_far ?_ NB345_347.out _; (with_reducible repeat (first | refine blk_drewN ?_ _ | refine blk_drew ?_ | refine blk_alloc ?_ _)); refine blk_far ?_ NB345_347.out _; (with_reducible repeat (first | refine blk_drewN ?_ _ | refine blk_drew ?_ | refine blk_alloc ?_ _)); refine blk_far ?_ NB345_347.out _; (with_reducible repeat (first | refine blk_drewN ?_ _ | refine blk_drew ?_ | refine blk_alloc ?_ _)); refine blk_far ?_ NB345_347.out _; (with_reducible repeat (first | refine blk_drewN ?_ _ | refine blk_drew ?_ | refine blk_alloc ?_ _)); refine blk_far ?_ NB345_347.out _; (with_reducible repeat (first | refine blk_drewN ?_ _ | refine blk_drew ?_ | refine blk_alloc ?_ _)); exact BK345.out) hb); have n3_ := Aside0.mk (blk_below (g := gb347) (o := .cells #[.int .i64 x343000_1, .int .i64 x343001_1, .int .i64 x343002_1, .int .i64 x343003_1, .string x343004_1] 26 (0, 0)) (by (with_reducible repeat (first | refine blk_drewN ?_ _ | refine blk_drew ?_ | refine blk_alloc ?_ _)); refine blk_put (cs := #[.int .i64 x343000_1, .int .i64 x343001_1, .int .i64 x343002_1, .int .i64 x343003_1, .string (⟨#[]⟩ : ByteArray)]) ?_ 4 _ rfl; (with_reducible repeat (first | refine blk_drewN ?_ _ | refine blk_drew ?_ | refine blk_alloc ?_ _)); refine blk_put (cs := #[.int .i64 x343000_1, .int .i64 x343001_1, .int .i64 x343002_1, .int .i64 0, .string (⟨#[]⟩ : ByteArray)]) ?_ 3 _ rfl; (with_reducible repeat (first | refine blk_drewN ?_ _ | refine blk_drew ?_ | refine blk_alloc ?_ _)); refine blk_put (cs := #[.int .i64 x343000_1, .int .i64 x343001_1, .int .i64 0, .int .i64 0, .string (⟨#[]⟩ : ByteArray)]) ?_ 2 _ rfl; (with_reducible repeat (first | refine blk_drewN ?_ _ | refine blk_drew ?_ | refine blk_alloc ?_ _)); refine blk_put (cs := #[.int .i64 x343000_1, .int .i64 0, .int .i64 0, .int .i64 0, .string (⟨#[]⟩ : ByteArray)]) ?_ 1 _ rfl; (with_reducible repeat (first | refine blk_drewN ?_ _ | refine blk_drew ?_ | refine blk_alloc ?_ _)); refine blk_put (cs := #[.int .i64 0, .int .i64 0, .int .i64 0, .int .i64 0, .string (⟨#[]⟩ : ByteArray)]) ?_ 0 _ rfl; (with_reducible repeat (first | refine blk_drewN ?_ _ | refine blk_drew ?_ | refine blk_alloc ?_ _)); exact BK347.out) hb); have n4_ := Aside0.mk (below_step (by repeat (first | (with_reducible first | exact HB.out | apply below_alloc | apply pw_below_drewN | apply below_drew1 | refine below_set ?_ GE336.out | refine below_set ?_ GE342.out | refine below_set ?_ GE345.out | refine below_set ?_ GE347.out) | exact HB.out)) hb); clear BK336; clear BK342; clear BK345; clear BK347; clear HB; have BK336 := n0_; have BK342 := n1_; have BK345 := n2_; have BK347 := n3_; have HB := n4_; clear n0_ n1_ n2_ n3_ n4_; (try clear hb); (try clear hb2); (try clear hk); (try clear hi); have hnb59 := NB347_345.out; have hnc59 := NB345_347.out; have hcz60_0 : w58.cell? ⟨gb347, 0, none⟩ = some (.int .i64 x343000_1) := (blk_cell BK347.out 0).trans rfl; have hcz60_1 : w58.cell? ⟨gb347, 1, none⟩ = some (.int .i64 x343001_1) := (blk_cell BK347.out 1).trans rfl; have hcz60_2 : w58.cell? ⟨gb347, 2, none⟩ = some (.int .i64 x343002_1) := (blk_cell BK347.out 2).trans rfl; have hcz60_3 : w58.cell? ⟨gb347, 3, none⟩ = some (.int .i64 x343003_1) := (blk_cell BK347.out 3).trans rfl; have hcz60_4 : w58.cell? ⟨gb347, 4, none⟩ = some (.string x343004_1) := (blk_cell BK347.out 4).trans rfl; have hfz60_0 := blk_frozen BK347.out 0; have hfz60_1 := blk_frozen BK347.out 1; have hfz60_2 := blk_frozen BK347.out 2; have hfz60_3 := blk_frozen BK347.out 3; have hfz60_4 := blk_frozen BK347.out 4))
                    go_meet
                    case rel => exact ⟨_, (x7_1), (t353), (t348), (t349), (t350), (t351), (t352), (by first | rfl | (simp; done) | (simp [*]; done)), (by first | rfl | (simp; done) | (simp [*]; done)), H', ⟨by have := HK1.out; first | omega | exact Nat.le_refl _⟩, ⟨by (with_reducible repeat (first | refine blk_drewN ?_ _ | refine blk_drew ?_ | refine blk_alloc ?_ _)); refine blk_far ?_ NB336_347.out _; (with_reducible repeat (first | refine blk_drewN ?_ _ | refine blk_drew ?_ | refine blk_alloc ?_ _)); refine blk_far ?_ NB336_347.out _; (with_reducible repeat (first | refine blk_drewN ?_ _ | refine blk_drew ?_ | refine blk_alloc ?_ _)); refine blk_far ?_ NB336_347.out _; (with_reducible repeat (first | refine blk_drewN ?_ _ | refine blk_drew ?_ | refine blk_alloc ?_ _)); refine blk_far ?_ NB336_347.out _; (with_reducible repeat (first | refine blk_drewN ?_ _ | refine blk_drew ?_ | refine blk_alloc ?_ _)); refine blk_far ?_ NB336_347.out _; (with_reducible repeat (first | refine blk_drewN ?_ _ | refine blk_drew ?_ | refine blk_alloc ?_ _)); exact BK336.out⟩, ⟨by (with_reducible repeat (first | refine blk_drewN ?_ _ | refine blk_drew ?_ | refine blk_alloc ?_ _)); refine blk_far ?_ NB342_347.out _; (with_reducible repeat (first | refine blk_drewN ?_ _ | refine blk_drew ?_ | refine blk_alloc ?_ _)); refine blk_far ?_ NB342_347.out _; (with_reducible repeat (first | refine blk_drewN ?_ _ | refine blk_drew ?_ | refine blk_alloc ?_ _)); refine blk_far ?_ NB342_347.out _; (with_reducible repeat (first | refine blk_drewN ?_ _ | refine blk_drew ?_ | refine blk_alloc ?_ _)); refine blk_far ?_ NB342_347.out _; (with_reducible repeat (first | refine blk_drewN ?_ _ | refine blk_drew ?_ | refine blk_alloc ?_ _)); refine blk_far ?_ NB342_347.out _; (with_reducible repeat (first | refine blk_drewN ?_ _ | refine blk_drew ?_ | refine blk_alloc ?_ _)); exact BK342.out⟩, ⟨by (with_reducible repeat (first | refine blk_drewN ?_ _ | refine blk_drew ?_ | refine blk_alloc ?_ _)); refine blk_far ?_ NB345_347.out _; (with_reducible repeat (first | refine blk_drewN ?_ _ | refine blk_drew ?_ | refine blk_alloc ?_ _)); refine blk_far ?_ NB345_347.out _; (with_reducible repeat (first | refine blk_drewN ?_ _ | refine blk_drew ?_ | refine blk_alloc ?_ _)); refine blk_far ?_ NB345_347.out _; (with_reducible repeat (first | refine blk_drewN ?_ _ | refine blk_drew ?_ | refine blk_alloc ?_ _)); refine blk_far ?_ NB345_347.out _; (with_reducible repeat (first | refine blk_drewN ?_ _ | refine blk_drew ?_ | refine blk_alloc ?_ _)); refine blk_far ?_ NB345_347.out _; (with_reducible repeat (first | refine blk_drewN ?_ _ | refine blk_drew ?_ | refine blk_alloc ?_ _)); exact BK345.out⟩, ⟨by (with_reducible repeat (first | refine blk_drewN ?_ _ | refine blk_drew ?_ | refine blk_alloc ?_ _)); refine blk_put (cs := #[.int .i64 t348, .int .i64 t349, .int .i64 t350, .int .i64 t351, .string x343004_1]) ?_ 4 _ rfl; (with_reducible repeat (first | refine blk_drewN ?_ _ | refine blk_drew ?_ | refine blk_alloc ?_ _)); refine blk_put (cs := #[.int .i64 t348, .int .i64 t349, .int .i64 t350, .int .i64 x343003_1, .string x343004_1]) ?_ 3 _ rfl; (with_reducible repeat (first | refine blk_drewN ?_ _ | refine blk_drew ?_ | refine blk_alloc ?_ _)); refine blk_put (cs := #[.int .i64 t348, .int .i64 t349, .int .i64 x343002_1, .int .i64 x343003_1, .string x343004_1]) ?_ 2 _ rfl; (with_reducible repeat (first | refine blk_drewN ?_ _ | refine blk_drew ?_ | refine blk_alloc ?_ _)); refine blk_put (cs := #[.int .i64 t348, .int .i64 x343001_1, .int .i64 x343002_1, .int .i64 x343003_1, .string x343004_1]) ?_ 1 _ rfl; (with_reducible repeat (first | refine blk_drewN ?_ _ | refine blk_drew ?_ | refine blk_alloc ?_ _)); refine blk_put (cs := #[.int .i64 x343000_1, .int .i64 x343001_1, .int .i64 x343002_1, .int .i64 x343003_1, .string x343004_1]) ?_ 0 _ rfl; (with_reducible repeat (first | refine blk_drewN ?_ _ | refine blk_drew ?_ | refine blk_alloc ?_ _)); exact BK347.out⟩, ⟨by repeat (first | (with_reducible first | exact HB.out | apply below_alloc | apply pw_below_drewN | apply below_drew1 | refine below_set ?_ GE336.out | refine below_set ?_ GE342.out | refine below_set ?_ GE345.out | refine below_set ?_ GE347.out) | exact HB.out)⟩⟩
                · rw [if_neg c38] at H
                  have c38b0 : (((rd_T42 l1 x22_1).f0) == 0) = false := beq_eq_false_iff_ne.mpr c38
                  have c38b1 : (((rd_T42 l1 x22_1).f0) != 0) = true := bne_iff_ne.mpr c38
                  (first | rw [c38b0] | (simp only [i64_w, i32_w]; rw [c38b0]) | skip)
                  by_cases c61 : ((rd_T42 l1 x22_1).f0) = 1
                  · rw [if_pos c61] at H
                    have c61b0 : (((rd_T42 l1 x22_1).f0) == 1) = true := beq_iff_eq.mpr c61
                    have c61b1 : (((rd_T42 l1 x22_1).f0) != 1) = false := bne_eq_false_iff_eq.mpr c61
                    clear c61
                    replace H := Option.bind_eq_some_iff.mp H
                    obtain ⟨⟨t354, t355, t356, t357, t358, t359⟩, A620, H⟩ := H
                    replace H : (penelopelaw18_TaskLasts.j1 k1 ji24 x7_1 t359 l1 (l1.length : Int) x22_1 l0_0 ji4 a0_2 a0_3 x343000_1 x343001_1 x343002_1 x343003_1 x343004_1 t354 t355 t356 t357 t358) = some r := H
                    have A62 := Aside0.mk A620
                    clear A620
                    have H' := Aside0.mk H
                    clear H
                    have hnb63 := NB336_342.out
                    have hnc63 := NB342_336.out
                    have hnb64 := NB336_345.out
                    have hnc64 := NB345_336.out
                    have hnb65 := NB336_347.out
                    have hnc65 := NB347_336.out
                    have hcz66_0 : w32.cell? ⟨gb336, 0, none⟩ = some (.slice A0_0 l0_0.length c0_0) := (blk_cell BK336.out 0).trans rfl
                    have hcz66_1 : w32.cell? ⟨gb336, 1, none⟩ = some (.int .i64 ji4) := (blk_cell BK336.out 1).trans rfl
                    have hcz66_2 : w32.cell? ⟨gb336, 2, none⟩ = some (.int .i64 a0_2) := (blk_cell BK336.out 2).trans rfl
                    have hcz66_3 : w32.cell? ⟨gb336, 3, none⟩ = some (.int .i64 a0_3) := (blk_cell BK336.out 3).trans rfl
                    have hfz66_0 := blk_frozen BK336.out 0
                    have hfz66_1 := blk_frozen BK336.out 1
                    have hfz66_2 := blk_frozen BK336.out 2
                    have hfz66_3 := blk_frozen BK336.out 3
                    have hnb67 := NB342_345.out
                    have hnc67 := NB345_342.out
                    have hnb68 := NB342_347.out
                    have hnc68 := NB347_342.out
                    have hcz69_0 : w32.cell? ⟨gb342, 0, none⟩ = some (.int .i64 x343000_1) := (blk_cell BK342.out 0).trans rfl
                    have hcz69_1 : w32.cell? ⟨gb342, 1, none⟩ = some (.int .i64 x343001_1) := (blk_cell BK342.out 1).trans rfl
                    have hcz69_2 : w32.cell? ⟨gb342, 2, none⟩ = some (.int .i64 x343002_1) := (blk_cell BK342.out 2).trans rfl
                    have hcz69_3 : w32.cell? ⟨gb342, 3, none⟩ = some (.int .i64 x343003_1) := (blk_cell BK342.out 3).trans rfl
                    have hcz69_4 : w32.cell? ⟨gb342, 4, none⟩ = some (.string x343004_1) := (blk_cell BK342.out 4).trans rfl
                    have hfz69_0 := blk_frozen BK342.out 0
                    have hfz69_1 := blk_frozen BK342.out 1
                    have hfz69_2 := blk_frozen BK342.out 2
                    have hfz69_3 := blk_frozen BK342.out 3
                    have hfz69_4 := blk_frozen BK342.out 4
                    go_wp2_with (first | ((with_reducible refine gate_callee (f := 14) rfl ?_); refine goesL_ (some 62) rfl rfl Try.func14 (by kernel_rfl) rfl #[.agg #[.slice A0_0 l0_0.length c0_0, .int .i64 ji4, .int .i64 a0_2, .int .i64 a0_3], .agg #[.int .i64 x343000_1, .int .i64 x343001_1, .int .i64 x343002_1, .int .i64 x343003_1, .string x343004_1], .int .i64 ji24] rfl (by (try simp only [List.map_toArray, List.map_cons, List.map_nil]); first | done | (simp only [hji24, hji4]; rfl) | rfl | (simp only [List.length_drop, List.length_take]; rfl)) ?_; (with_reducible refine (task_Beat.calls k1 _ _ l0_0 ji4 a0_2 a0_3 x343000_1 x343001_1 x343002_1 x343003_1 x343004_1 ji24 t354 t355 t356 t357 t358 t359 _ ?side1 ?side2 A62.out).mono ?_); (case side1 => exact Kd.C_below HR0_0.out (by repeat (first | (with_reducible first | exact HB.out | apply below_alloc | apply pw_below_drewN | apply below_drew1 | refine below_set ?_ GE336.out | refine below_set ?_ GE342.out | refine below_set ?_ GE345.out | refine below_set ?_ GE347.out) | exact HB.out))); (case side2 => exact HC0_0.out); rintro e w70 ⟨rfl, hb⟩; refine ⟨_, rfl, ?_⟩; have n0_ := Aside0.mk (blk_below (g := gb336) (o := .cells #[.slice A0_0 l0_0.length c0_0, .int .i64 ji4, .int .i64 a0_2, .int .i64 a0_3] 24 (0, 0)) (by (with_reducible repeat (first | refine blk_drewN ?_ _ | refine blk_drew ?_ | refine blk_alloc ?_ _)); refine blk_far ?_ NB336_347.out _; (with_reducible repeat (first | refine blk_drewN ?_ _ | refine blk_drew ?_ | refine blk_alloc ?_ _)); refine blk_far ?_ NB336_347.out _; (with_reducible repeat (first | refine blk_drewN ?_ _ | refine blk_drew ?_ | refine blk_alloc ?_ _)); refine blk_far ?_ NB336_347.out _; (with_reducible repeat (first | refine blk_drewN ?_ _ | refine blk_drew ?_ | refine blk_alloc ?_ _)); refine blk_far ?_ NB336_347.out _; (with_reducible repeat (first | refine blk_drewN ?_ _ | refine blk_drew ?_ | refine blk_alloc ?_ _)); refine blk_far ?_ NB336_347.out _; (with_reducible repeat (first | refine blk_drewN ?_ _ | refine blk_drew ?_ | refine blk_alloc ?_ _)); exact BK336.out) hb); have n1_ := Aside0.mk (blk_below (g := gb342) (o := .cells #[.int .i64 x343000_1, .int .i64 x343001_1, .int .i64 x343002_1, .int .i64 x343003_1, .string x343004_1] 26 (0, 0)) (by (with_reducible repeat (first | refine blk_drewN ?_ _ | refine blk_drew ?_ | refine blk_alloc ?_ _)); refine blk_far ?_ NB342_347.out _; (with_reducible repeat (first | refine blk_drewN ?_ _ | refine blk_drew ?_ | refine blk_alloc ?_ _)); refine blk_far ?_ NB342_347.out _; (with_reducible repeat (first | refine blk_drewN ?_ _ | refine blk_drew ?_ | refine blk_alloc ?_ _)); refine blk_far ?_ NB342_347.out _; (with_reducible repeat (first | refine blk_drewN ?_ _ | refine blk_drew ?_ | refine blk_alloc ?_ _)); refine blk_far ?_ NB342_347.out _; (with_reducible repeat (first | refine blk_drewN ?_ _ | refine blk_drew ?_ | refine blk_alloc ?_ _)); refine blk_far ?_ NB342_347.out _; (with_reducible repeat (first | refine blk_drewN ?_ _ | refine blk_drew ?_ | refine blk_alloc ?_ _)); exact BK342.out) hb); have n2_ := Aside0.mk (blk_below (g := gb345) (o := .cells #[.int .i64 ((rd_T42 l1 x22_1).f0), .int .i64 ((rd_T42 l1 x22_1).f1)] 42 (0, 0)) (by (with_reducible repeat (first | refine blk_drewN ?_ _ | refine blk_drew ?_ | refine blk_alloc ?_ _)); refine blk_far ?_ NB345_347.out _; (with_reducible repeat (first | refine blk_drewN ?_ _ | refine blk_drew ?_ | refine blk_alloc ?_ _)); refine blk_far ?_ NB345_347.out _; (with_reducible repeat (first | refine blk_drewN ?_ _ | refine blk_drew ?_ | refine blk_alloc ?_ _)); refine blk_far ?_ NB345_347.out _; (with_reducible repeat (first | refine blk_drewN ?_ _ | refine blk_drew ?_ | refine blk_alloc ?_ _)); refine blk_far ?_ NB345_347.out _; (with_reducible repeat (first | refine blk_drewN ?_ _ | refine blk_drew ?_ | refine blk_alloc ?_ _)); refine blk_far ?_ NB345_347.out _; (with_reducible repeat (first | refine blk_drewN ?_ _ | refine blk_drew ?_ | refine blk_alloc ?_ _)); exact BK345.out) hb); have n3_ := Aside0.mk (blk_below (g := gb347) (o := .cells #[.int .i64 x343000_1, .int .i64 x343001_1, .int .i64 x343002_1, .int .i64 x343003_1, .string x343004_1] 26 (0, 0)) (by (with_reducible repeat (first | refine blk_drewN ?_ _ | refine blk_drew ?_ | refine blk_alloc ?_ _)); refine blk_put (cs := #[.int .i64 x343000_1, .int .i64 x343001_1, .int .i64 x343002_1, .int .i64 x343003_1, .string (⟨#[]⟩ : ByteArray)]) ?_ 4 _ rfl; (with_reducible repeat (first | refine blk_drewN ?_ _ | refine blk_drew ?_ | refine blk_alloc ?_ _)); refine blk_put (cs := #[.int .i64 x343000_1, .int .i64 x343001_1, .int .i64 x343002_1, .int .i64 0, .string (⟨#[]⟩ : ByteArray)]) ?_ 3 _ rfl; (with_reducible repeat (first | refine blk_drewN ?_ _ | refine blk_drew ?_ | refine blk_alloc ?_ _)); refine blk_put (cs := #[.int .i64 x343000_1, .int .i64 x343001_1, .int .i64 0, .int .i64 0, .string (⟨#[]⟩ : ByteArray)]) ?_ 2 _ rfl; (with_reducible repeat (first | refine blk_drewN ?_ _ | refine blk_drew ?_ | refine blk_alloc ?_ _)); refine blk_put (cs := #[.int .i64 x343000_1, .int .i64 0, .int .i64 0, .int .i64 0, .string (⟨#[]⟩ : ByteArray)]) ?_ 1 _ rfl; (with_reducible repeat (first | refine blk_drewN ?_ _ | refine blk_drew ?_ | refine blk_alloc ?_ _)); refine blk_put (cs := #[.int .i64 0, .int .i64 0, .int .i64 0, .int .i64 0, .string (⟨#[]⟩ : ByteArray)]) ?_ 0 _ rfl; (with_reducible repeat (first | refine blk_drewN ?_ _ | refine blk_drew ?_ | refine blk_alloc ?_ _)); exact BK347.out) hb); have n4_ := Aside0.mk (below_step (by repeat (first | (with_reducible first | exact HB.out | apply below_alloc | apply pw_below_drewN | apply below_drew1 | refine below_set ?_ GE336.out | refine below_set ?_ GE342.out | refine below_set ?_ GE345.out | refine below_set ?_ GE347.out) | exact HB.out)) hb); clear BK336; clear BK342; clear BK345; clear BK347; clear HB; have BK336 := n0_; have BK342 := n1_; have BK345 := n2_; have BK347 := n3_; have HB := n4_; clear n0_ n1_ n2_ n3_ n4_; (try clear hb); (try clear hb2); (try clear hk); (try clear hi); have hnb71 := NB347_345.out; have hnc71 := NB345_347.out; have hcz72_0 : w70.cell? ⟨gb347, 0, none⟩ = some (.int .i64 x343000_1) := (blk_cell BK347.out 0).trans rfl; have hcz72_1 : w70.cell? ⟨gb347, 1, none⟩ = some (.int .i64 x343001_1) := (blk_cell BK347.out 1).trans rfl; have hcz72_2 : w70.cell? ⟨gb347, 2, none⟩ = some (.int .i64 x343002_1) := (blk_cell BK347.out 2).trans rfl; have hcz72_3 : w70.cell? ⟨gb347, 3, none⟩ = some (.int .i64 x343003_1) := (blk_cell BK347.out 3).trans rfl; have hcz72_4 : w70.cell? ⟨gb347, 4, none⟩ = some (.string x343004_1) := (blk_cell BK347.out 4).trans rfl; have hfz72_0 := blk_frozen BK347.out 0; have hfz72_1 := blk_frozen BK347.out 1; have hfz72_2 := blk_frozen BK347.out 2; have hfz72_3 := blk_frozen BK347.out 3; have hfz72_4 := blk_frozen BK347.out 4))
                    go_meet
                    case rel => exact ⟨_, (x7_1), (t359), (t354), (t355), (t356), (t357), (t358), (by first | rfl | (simp; done) | (simp [*]; done)), (by first | rfl | (simp; done) | (simp [*]; done)), H', ⟨by have := HK1.out; first | omega | exact Nat.le_refl _⟩, ⟨by (with_reducible repeat (first | refine blk_drewN ?_ _ | refine blk_drew ?_ | refine blk_alloc ?_ _)); refine blk_far ?_ NB336_347.out _; (with_reducible repeat (first | refine blk_drewN ?_ _ | refine blk_drew ?_ | refine blk_alloc ?_ _)); refine blk_far ?_ NB336_347.out _; (with_reducible repeat (first | refine blk_drewN ?_ _ | refine blk_drew ?_ | refine blk_alloc ?_ _)); refine blk_far ?_ NB336_347.out _; (with_reducible repeat (first | refine blk_drewN ?_ _ | refine blk_drew ?_ | refine blk_alloc ?_ _)); refine blk_far ?_ NB336_347.out _; (with_reducible repeat (first | refine blk_drewN ?_ _ | refine blk_drew ?_ | refine blk_alloc ?_ _)); refine blk_far ?_ NB336_347.out _; (with_reducible repeat (first | refine blk_drewN ?_ _ | refine blk_drew ?_ | refine blk_alloc ?_ _)); exact BK336.out⟩, ⟨by (with_reducible repeat (first | refine blk_drewN ?_ _ | refine blk_drew ?_ | refine blk_alloc ?_ _)); refine blk_far ?_ NB342_347.out _; (with_reducible repeat (first | refine blk_drewN ?_ _ | refine blk_drew ?_ | refine blk_alloc ?_ _)); refine blk_far ?_ NB342_347.out _; (with_reducible repeat (first | refine blk_drewN ?_ _ | refine blk_drew ?_ | refine blk_alloc ?_ _)); refine blk_far ?_ NB342_347.out _; (with_reducible repeat (first | refine blk_drewN ?_ _ | refine blk_drew ?_ | refine blk_alloc ?_ _)); refine blk_far ?_ NB342_347.out _; (with_reducible repeat (first | refine blk_drewN ?_ _ | refine blk_drew ?_ | refine blk_alloc ?_ _)); refine blk_far ?_ NB342_347.out _; (with_reducible repeat (first | refine blk_drewN ?_ _ | refine blk_drew ?_ | refine blk_alloc ?_ _)); exact BK342.out⟩, ⟨by (with_reducible repeat (first | refine blk_drewN ?_ _ | refine blk_drew ?_ | refine blk_alloc ?_ _)); refine blk_far ?_ NB345_347.out _; (with_reducible repeat (first | refine blk_drewN ?_ _ | refine blk_drew ?_ | refine blk_alloc ?_ _)); refine blk_far ?_ NB345_347.out _; (with_reducible repeat (first | refine blk_drewN ?_ _ | refine blk_drew ?_ | refine blk_alloc ?_ _)); refine blk_far ?_ NB345_347.out _; (with_reducible repeat (first | refine blk_drewN ?_ _ | refine blk_drew ?_ | refine blk_alloc ?_ _)); refine blk_far ?_ NB345_347.out _; (with_reducible repeat (first | refine blk_drewN ?_ _ | refine blk_drew ?_ | refine blk_alloc ?_ _)); refine blk_far ?_ NB345_347.out _; (with_reducible repeat (first | refine blk_drewN ?_ _ | refine blk_drew ?_ | refine blk_alloc ?_ _)); exact BK345.out⟩, ⟨by (with_reducible repeat (first | refine blk_drewN ?_ _ | refine blk_drew ?_ | refine blk_alloc ?_ _)); refine blk_put (cs := #[.int .i64 t354, .int .i64 t355, .int .i64 t356, .int .i64 t357, .string x343004_1]) ?_ 4 _ rfl; (with_reducible repeat (first | refine blk_drewN ?_ _ | refine blk_drew ?_ | refine blk_alloc ?_ _)); refine blk_put (cs := #[.int .i64 t354, .int .i64 t355, .int .i64 t356, .int .i64 x343003_1, .string x343004_1]) ?_ 3 _ rfl; (with_reducible repeat (first | refine blk_drewN ?_ _ | refine blk_drew ?_ | refine blk_alloc ?_ _)); refine blk_put (cs := #[.int .i64 t354, .int .i64 t355, .int .i64 x343002_1, .int .i64 x343003_1, .string x343004_1]) ?_ 2 _ rfl; (with_reducible repeat (first | refine blk_drewN ?_ _ | refine blk_drew ?_ | refine blk_alloc ?_ _)); refine blk_put (cs := #[.int .i64 t354, .int .i64 x343001_1, .int .i64 x343002_1, .int .i64 x343003_1, .string x343004_1]) ?_ 1 _ rfl; (with_reducible repeat (first | refine blk_drewN ?_ _ | refine blk_drew ?_ | refine blk_alloc ?_ _)); refine blk_put (cs := #[.int .i64 x343000_1, .int .i64 x343001_1, .int .i64 x343002_1, .int .i64 x343003_1, .string x343004_1]) ?_ 0 _ rfl; (with_reducible repeat (first | refine blk_drewN ?_ _ | refine blk_drew ?_ | refine blk_alloc ?_ _)); exact BK347.out⟩, ⟨by repeat (first | (with_reducible first | exact HB.out | apply below_alloc | apply pw_below_drewN | apply below_drew1 | refine below_set ?_ GE336.out | refine below_set ?_ GE342.out | refine below_set ?_ GE345.out | refine below_set ?_ GE347.out) | exact HB.out)⟩⟩
                  · rw [if_neg c61] at H
                    have c61b0 : (((rd_T42 l1 x22_1).f0) == 1) = false := beq_eq_false_iff_ne.mpr c61
                    have c61b1 : (((rd_T42 l1 x22_1).f0) != 1) = true := bne_iff_ne.mpr c61
                    by_cases c73 : ((rd_T42 l1 x22_1).f0) = 2
                    · rw [if_pos c73] at H
                      have c73b0 : (((rd_T42 l1 x22_1).f0) == 2) = true := beq_iff_eq.mpr c73
                      have c73b1 : (((rd_T42 l1 x22_1).f0) != 2) = false := bne_eq_false_iff_eq.mpr c73
                      clear c73
                      replace H := Option.bind_eq_some_iff.mp H
                      obtain ⟨⟨t360, t361, t362, t363, t364, t365⟩, A740, H⟩ := H
                      replace H : (penelopelaw18_TaskLasts.j1 k1 ji24 x7_1 t365 l1 (l1.length : Int) x22_1 l0_0 ji4 a0_2 a0_3 x343000_1 x343001_1 x343002_1 x343003_1 x343004_1 t360 t361 t362 t363 t364) = some r := H
                      have A74 := Aside0.mk A740
                      clear A740
                      have H' := Aside0.mk H
                      clear H
                      have hnb75 := NB336_342.out
                      have hnc75 := NB342_336.out
                      have hnb76 := NB336_345.out
                      have hnc76 := NB345_336.out
                      have hnb77 := NB336_347.out
                      have hnc77 := NB347_336.out
                      have hcz78_0 : w32.cell? ⟨gb336, 0, none⟩ = some (.slice A0_0 l0_0.length c0_0) := (blk_cell BK336.out 0).trans rfl
                      have hcz78_1 : w32.cell? ⟨gb336, 1, none⟩ = some (.int .i64 ji4) := (blk_cell BK336.out 1).trans rfl
                      have hcz78_2 : w32.cell? ⟨gb336, 2, none⟩ = some (.int .i64 a0_2) := (blk_cell BK336.out 2).trans rfl
                      have hcz78_3 : w32.cell? ⟨gb336, 3, none⟩ = some (.int .i64 a0_3) := (blk_cell BK336.out 3).trans rfl
                      have hfz78_0 := blk_frozen BK336.out 0
                      have hfz78_1 := blk_frozen BK336.out 1
                      have hfz78_2 := blk_frozen BK336.out 2
                      have hfz78_3 := blk_frozen BK336.out 3
                      have hnb79 := NB342_345.out
                      have hnc79 := NB345_342.out
                      have hnb80 := NB342_347.out
                      have hnc80 := NB347_342.out
                      have hcz81_0 : w32.cell? ⟨gb342, 0, none⟩ = some (.int .i64 x343000_1) := (blk_cell BK342.out 0).trans rfl
                      have hcz81_1 : w32.cell? ⟨gb342, 1, none⟩ = some (.int .i64 x343001_1) := (blk_cell BK342.out 1).trans rfl
                      have hcz81_2 : w32.cell? ⟨gb342, 2, none⟩ = some (.int .i64 x343002_1) := (blk_cell BK342.out 2).trans rfl
                      have hcz81_3 : w32.cell? ⟨gb342, 3, none⟩ = some (.int .i64 x343003_1) := (blk_cell BK342.out 3).trans rfl
                      have hcz81_4 : w32.cell? ⟨gb342, 4, none⟩ = some (.string x343004_1) := (blk_cell BK342.out 4).trans rfl
                      have hfz81_0 := blk_frozen BK342.out 0
                      have hfz81_1 := blk_frozen BK342.out 1
                      have hfz81_2 := blk_frozen BK342.out 2
                      have hfz81_3 := blk_frozen BK342.out 3
                      have hfz81_4 := blk_frozen BK342.out 4
                      go_wp2_with (first | ((with_reducible refine gate_callee (f := 17) rfl ?_); refine goesL_ (some 70) rfl rfl Try.func17 (by kernel_rfl) rfl #[.agg #[.slice A0_0 l0_0.length c0_0, .int .i64 ji4, .int .i64 a0_2, .int .i64 a0_3], .agg #[.int .i64 x343000_1, .int .i64 x343001_1, .int .i64 x343002_1, .int .i64 x343003_1, .string x343004_1], .string (⟨#[114]⟩ : ByteArray)] rfl (by (try simp only [List.map_toArray, List.map_cons, List.map_nil]); first | done | (simp only [hji4]; rfl) | rfl | (simp only [List.length_drop, List.length_take]; rfl)) ?_; (with_reducible refine (task_Done.calls _ _ l0_0 ji4 a0_2 a0_3 x343000_1 x343001_1 x343002_1 x343003_1 x343004_1 (⟨#[114]⟩ : ByteArray) t360 t361 t362 t363 t364 t365 _ ?side1 ?side2 A74.out).mono ?_); (case side1 => exact Kd.C_below HR0_0.out (by repeat (first | (with_reducible first | exact HB.out | apply below_alloc | apply pw_below_drewN | apply below_drew1 | refine below_set ?_ GE336.out | refine below_set ?_ GE342.out | refine below_set ?_ GE345.out | refine below_set ?_ GE347.out) | exact HB.out))); (case side2 => exact HC0_0.out); rintro e w82 ⟨rfl, hb⟩; refine ⟨_, rfl, ?_⟩; have n0_ := Aside0.mk (blk_below (g := gb336) (o := .cells #[.slice A0_0 l0_0.length c0_0, .int .i64 ji4, .int .i64 a0_2, .int .i64 a0_3] 24 (0, 0)) (by (with_reducible repeat (first | refine blk_drewN ?_ _ | refine blk_drew ?_ | refine blk_alloc ?_ _)); refine blk_far ?_ NB336_347.out _; (with_reducible repeat (first | refine blk_drewN ?_ _ | refine blk_drew ?_ | refine blk_alloc ?_ _)); refine blk_far ?_ NB336_347.out _; (with_reducible repeat (first | refine blk_drewN ?_ _ | refine blk_drew ?_ | refine blk_alloc ?_ _)); refine blk_far ?_ NB336_347.out _; (with_reducible repeat (first | refine blk_drewN ?_ _ | refine blk_drew ?_ | refine blk_alloc ?_ _)); refine blk_far ?_ NB336_347.out _; (with_reducible repeat (first | refine blk_drewN ?_ _ | refine blk_drew ?_ | refine blk_alloc ?_ _)); refine blk_far ?_ NB336_347.out _; (with_reducible repeat (first | refine blk_drewN ?_ _ | refine blk_drew ?_ | refine blk_alloc ?_ _)); exact BK336.out) hb); have n1_ := Aside0.mk (blk_below (g := gb342) (o := .cells #[.int .i64 x343000_1, .int .i64 x343001_1, .int .i64 x343002_1, .int .i64 x343003_1, .string x343004_1] 26 (0, 0)) (by (with_reducible repeat (first | refine blk_drewN ?_ _ | refine blk_drew ?_ | refine blk_alloc ?_ _)); refine blk_far ?_ NB342_347.out _; (with_reducible repeat (first | refine blk_drewN ?_ _ | refine blk_drew ?_ | refine blk_alloc ?_ _)); refine blk_far ?_ NB342_347.out _; (with_reducible repeat (first | refine blk_drewN ?_ _ | refine blk_drew ?_ | refine blk_alloc ?_ _)); refine blk_far ?_ NB342_347.out _; (with_reducible repeat (first | refine blk_drewN ?_ _ | refine blk_drew ?_ | refine blk_alloc ?_ _)); refine blk_far ?_ NB342_347.out _; (with_reducible repeat (first | refine blk_drewN ?_ _ | refine blk_drew ?_ | refine blk_alloc ?_ _)); refine blk_far ?_ NB342_347.out _; (with_reducible repeat (first | refine blk_drewN ?_ _ | refine blk_drew ?_ | refine blk_alloc ?_ _)); exact BK342.out) hb); have n2_ := Aside0.mk (blk_below (g := gb345) (o := .cells #[.int .i64 ((rd_T42 l1 x22_1).f0), .int .i64 ((rd_T42 l1 x22_1).f1)] 42 (0, 0)) (by (with_reducible repeat (first | refine blk_drewN ?_ _ | refine blk_drew ?_ | refine blk_alloc ?_ _)); refine blk_far ?_ NB345_347.out _; (with_reducible repeat (first | refine blk_drewN ?_ _ | refine blk_drew ?_ | refine blk_alloc ?_ _)); refine blk_far ?_ NB345_347.out _; (with_reducible repeat (first | refine blk_drewN ?_ _ | refine blk_drew ?_ | refine blk_alloc ?_ _)); refine blk_far ?_ NB345_347.out _; (with_reducible repeat (first | refine blk_drewN ?_ _ | refine blk_drew ?_ | refine blk_alloc ?_ _)); refine blk_far ?_ NB345_347.out _; (with_reducible repeat (first | refine blk_drewN ?_ _ | refine blk_drew ?_ | refine blk_alloc ?_ _)); refine blk_far ?_ NB345_347.out _; (with_reducible repeat (first | refine blk_drewN ?_ _ | refine blk_drew ?_ | refine blk_alloc ?_ _)); exact BK345.out) hb); have n3_ := Aside0.mk (blk_below (g := gb347) (o := .cells #[.int .i64 x343000_1, .int .i64 x343001_1, .int .i64 x343002_1, .int .i64 x343003_1, .string x343004_1] 26 (0, 0)) (by (with_reducible repeat (first | refine blk_drewN ?_ _ | refine blk_drew ?_ | refine blk_alloc ?_ _)); refine blk_put (cs := #[.int .i64 x343000_1, .int .i64 x343001_1, .int .i64 x343002_1, .int .i64 x343003_1, .string (⟨#[]⟩ : ByteArray)]) ?_ 4 _ rfl; (with_reducible repeat (first | refine blk_drewN ?_ _ | refine blk_drew ?_ | refine blk_alloc ?_ _)); refine blk_put (cs := #[.int .i64 x343000_1, .int .i64 x343001_1, .int .i64 x343002_1, .int .i64 0, .string (⟨#[]⟩ : ByteArray)]) ?_ 3 _ rfl; (with_reducible repeat (first | refine blk_drewN ?_ _ | refine blk_drew ?_ | refine blk_alloc ?_ _)); refine blk_put (cs := #[.int .i64 x343000_1, .int .i64 x343001_1, .int .i64 0, .int .i64 0, .string (⟨#[]⟩ : ByteArray)]) ?_ 2 _ rfl; (with_reducible repeat (first | refine blk_drewN ?_ _ | refine blk_drew ?_ | refine blk_alloc ?_ _)); refine blk_put (cs := #[.int .i64 x343000_1, .int .i64 0, .int .i64 0, .int .i64 0, .string (⟨#[]⟩ : ByteArray)]) ?_ 1 _ rfl; (with_reducible repeat (first | refine blk_drewN ?_ _ | refine blk_drew ?_ | refine blk_alloc ?_ _)); refine blk_put (cs := #[.int .i64 0, .int .i64 0, .int .i64 0, .int .i64 0, .string (⟨#[]⟩ : ByteArray)]) ?_ 0 _ rfl; (with_reducible repeat (first | refine blk_drewN ?_ _ | refine blk_drew ?_ | refine blk_alloc ?_ _)); exact BK347.out) hb); have n4_ := Aside0.mk (below_step (by repeat (first | (with_reducible first | exact HB.out | apply below_alloc | apply pw_below_drewN | apply below_drew1 | refine below_set ?_ GE336.out | refine below_set ?_ GE342.out | refine below_set ?_ GE345.out | refine below_set ?_ GE347.out) | exact HB.out)) hb); clear BK336; clear BK342; clear BK345; clear BK347; clear HB; have BK336 := n0_; have BK342 := n1_; have BK345 := n2_; have BK347 := n3_; have HB := n4_; clear n0_ n1_ n2_ n3_ n4_; (try clear hb); (try clear hb2); (try clear hk); (try clear hi); have hnb83 := NB347_345.out; have hnc83 := NB345_347.out; have hcz84_0 : w82.cell? ⟨gb347, 0, none⟩ = some (.int .i64 x343000_1) := (blk_cell BK347.out 0).trans rfl; have hcz84_1 : w82.cell? ⟨gb347, 1, none⟩ = some (.int .i64 x343001_1) := (blk_cell BK347.out 1).trans rfl; have hcz84_2 : w82.cell? ⟨gb347, 2, none⟩ = some (.int .i64 x343002_1) := (blk_cell BK347.out 2).trans rfl; have hcz84_3 : w82.cell? ⟨gb347, 3, none⟩ = some (.int .i64 x343003_1) := (blk_cell BK347.out 3).trans rfl; have hcz84_4 : w82.cell? ⟨gb347, 4, none⟩ = some (.string x343004_1) := (blk_cell BK347.out 4).trans rfl; have hfz84_0 := blk_frozen BK347.out 0; have hfz84_1 := blk_frozen BK347.out 1; have hfz84_2 := blk_frozen BK347.out 2; have hfz84_3 := blk_frozen BK347.out 3; have hfz84_4 := blk_frozen BK347.out 4))
                      go_meet
                      case rel => exact ⟨_, (x7_1), (t365), (t360), (t361), (t362), (t363), (t364), (by first | rfl | (simp; done) | (simp [*]; done)), (by first | rfl | (simp; done) | (simp [*]; done)), H', ⟨by have := HK1.out; first | omega | exact Nat.le_refl _⟩, ⟨by (with_reducible repeat (first | refine blk_drewN ?_ _ | refine blk_drew ?_ | refine blk_alloc ?_ _)); refine blk_far ?_ NB336_347.out _; (with_reducible repeat (first | refine blk_drewN ?_ _ | refine blk_drew ?_ | refine blk_alloc ?_ _)); refine blk_far ?_ NB336_347.out _; (with_reducible repeat (first | refine blk_drewN ?_ _ | refine blk_drew ?_ | refine blk_alloc ?_ _)); refine blk_far ?_ NB336_347.out _; (with_reducible repeat (first | refine blk_drewN ?_ _ | refine blk_drew ?_ | refine blk_alloc ?_ _)); refine blk_far ?_ NB336_347.out _; (with_reducible repeat (first | refine blk_drewN ?_ _ | refine blk_drew ?_ | refine blk_alloc ?_ _)); refine blk_far ?_ NB336_347.out _; (with_reducible repeat (first | refine blk_drewN ?_ _ | refine blk_drew ?_ | refine blk_alloc ?_ _)); exact BK336.out⟩, ⟨by (with_reducible repeat (first | refine blk_drewN ?_ _ | refine blk_drew ?_ | refine blk_alloc ?_ _)); refine blk_far ?_ NB342_347.out _; (with_reducible repeat (first | refine blk_drewN ?_ _ | refine blk_drew ?_ | refine blk_alloc ?_ _)); refine blk_far ?_ NB342_347.out _; (with_reducible repeat (first | refine blk_drewN ?_ _ | refine blk_drew ?_ | refine blk_alloc ?_ _)); refine blk_far ?_ NB342_347.out _; (with_reducible repeat (first | refine blk_drewN ?_ _ | refine blk_drew ?_ | refine blk_alloc ?_ _)); refine blk_far ?_ NB342_347.out _; (with_reducible repeat (first | refine blk_drewN ?_ _ | refine blk_drew ?_ | refine blk_alloc ?_ _)); refine blk_far ?_ NB342_347.out _; (with_reducible repeat (first | refine blk_drewN ?_ _ | refine blk_drew ?_ | refine blk_alloc ?_ _)); exact BK342.out⟩, ⟨by (with_reducible repeat (first | refine blk_drewN ?_ _ | refine blk_drew ?_ | refine blk_alloc ?_ _)); refine blk_far ?_ NB345_347.out _; (with_reducible repeat (first | refine blk_drewN ?_ _ | refine blk_drew ?_ | refine blk_alloc ?_ _)); refine blk_far ?_ NB345_347.out _; (with_reducible repeat (first | refine blk_drewN ?_ _ | refine blk_drew ?_ | refine blk_alloc ?_ _)); refine blk_far ?_ NB345_347.out _; (with_reducible repeat (first | refine blk_drewN ?_ _ | refine blk_drew ?_ | refine blk_alloc ?_ _)); refine blk_far ?_ NB345_347.out _; (with_reducible repeat (first | refine blk_drewN ?_ _ | refine blk_drew ?_ | refine blk_alloc ?_ _)); refine blk_far ?_ NB345_347.out _; (with_reducible repeat (first | refine blk_drewN ?_ _ | refine blk_drew ?_ | refine blk_alloc ?_ _)); exact BK345.out⟩, ⟨by (with_reducible repeat (first | refine blk_drewN ?_ _ | refine blk_drew ?_ | refine blk_alloc ?_ _)); refine blk_put (cs := #[.int .i64 t360, .int .i64 t361, .int .i64 t362, .int .i64 t363, .string x343004_1]) ?_ 4 _ rfl; (with_reducible repeat (first | refine blk_drewN ?_ _ | refine blk_drew ?_ | refine blk_alloc ?_ _)); refine blk_put (cs := #[.int .i64 t360, .int .i64 t361, .int .i64 t362, .int .i64 x343003_1, .string x343004_1]) ?_ 3 _ rfl; (with_reducible repeat (first | refine blk_drewN ?_ _ | refine blk_drew ?_ | refine blk_alloc ?_ _)); refine blk_put (cs := #[.int .i64 t360, .int .i64 t361, .int .i64 x343002_1, .int .i64 x343003_1, .string x343004_1]) ?_ 2 _ rfl; (with_reducible repeat (first | refine blk_drewN ?_ _ | refine blk_drew ?_ | refine blk_alloc ?_ _)); refine blk_put (cs := #[.int .i64 t360, .int .i64 x343001_1, .int .i64 x343002_1, .int .i64 x343003_1, .string x343004_1]) ?_ 1 _ rfl; (with_reducible repeat (first | refine blk_drewN ?_ _ | refine blk_drew ?_ | refine blk_alloc ?_ _)); refine blk_put (cs := #[.int .i64 x343000_1, .int .i64 x343001_1, .int .i64 x343002_1, .int .i64 x343003_1, .string x343004_1]) ?_ 0 _ rfl; (with_reducible repeat (first | refine blk_drewN ?_ _ | refine blk_drew ?_ | refine blk_alloc ?_ _)); exact BK347.out⟩, ⟨by repeat (first | (with_reducible first | exact HB.out | apply below_alloc | apply pw_below_drewN | apply below_drew1 | refine below_set ?_ GE336.out | refine below_set ?_ GE342.out | refine below_set ?_ GE345.out | refine below_set ?_ GE347.out) | exact HB.out)⟩⟩
                    · rw [if_neg c73] at H
                      have c73b0 : (((rd_T42 l1 x22_1).f0) == 2) = false := beq_eq_false_iff_ne.mpr c73
                      have c73b1 : (((rd_T42 l1 x22_1).f0) != 2) = true := bne_iff_ne.mpr c73
                      by_cases c85 : ((rd_T42 l1 x22_1).f0) = 3
                      · rw [if_pos c85] at H
                        have c85b0 : (((rd_T42 l1 x22_1).f0) == 3) = true := beq_iff_eq.mpr c85
                        have c85b1 : (((rd_T42 l1 x22_1).f0) != 3) = false := bne_eq_false_iff_eq.mpr c85
                        clear c85
                        replace H := Option.bind_eq_some_iff.mp H
                        obtain ⟨⟨t366, t367, t368, t369, t370, t371⟩, A860, H⟩ := H
                        replace H : (penelopelaw18_TaskLasts.j1 k1 ji24 x7_1 t371 l1 (l1.length : Int) x22_1 l0_0 ji4 a0_2 a0_3 x343000_1 x343001_1 x343002_1 x343003_1 x343004_1 t366 t367 t368 t369 t370) = some r := H
                        have A86 := Aside0.mk A860
                        clear A860
                        have H' := Aside0.mk H
                        clear H
                        have hnb87 := NB336_342.out
                        have hnc87 := NB342_336.out
                        have hnb88 := NB336_345.out
                        have hnc88 := NB345_336.out
                        have hnb89 := NB336_347.out
                        have hnc89 := NB347_336.out
                        have hcz90_0 : w32.cell? ⟨gb336, 0, none⟩ = some (.slice A0_0 l0_0.length c0_0) := (blk_cell BK336.out 0).trans rfl
                        have hcz90_1 : w32.cell? ⟨gb336, 1, none⟩ = some (.int .i64 ji4) := (blk_cell BK336.out 1).trans rfl
                        have hcz90_2 : w32.cell? ⟨gb336, 2, none⟩ = some (.int .i64 a0_2) := (blk_cell BK336.out 2).trans rfl
                        have hcz90_3 : w32.cell? ⟨gb336, 3, none⟩ = some (.int .i64 a0_3) := (blk_cell BK336.out 3).trans rfl
                        have hfz90_0 := blk_frozen BK336.out 0
                        have hfz90_1 := blk_frozen BK336.out 1
                        have hfz90_2 := blk_frozen BK336.out 2
                        have hfz90_3 := blk_frozen BK336.out 3
                        have hnb91 := NB342_345.out
                        have hnc91 := NB345_342.out
                        have hnb92 := NB342_347.out
                        have hnc92 := NB347_342.out
                        have hcz93_0 : w32.cell? ⟨gb342, 0, none⟩ = some (.int .i64 x343000_1) := (blk_cell BK342.out 0).trans rfl
                        have hcz93_1 : w32.cell? ⟨gb342, 1, none⟩ = some (.int .i64 x343001_1) := (blk_cell BK342.out 1).trans rfl
                        have hcz93_2 : w32.cell? ⟨gb342, 2, none⟩ = some (.int .i64 x343002_1) := (blk_cell BK342.out 2).trans rfl
                        have hcz93_3 : w32.cell? ⟨gb342, 3, none⟩ = some (.int .i64 x343003_1) := (blk_cell BK342.out 3).trans rfl
                        have hcz93_4 : w32.cell? ⟨gb342, 4, none⟩ = some (.string x343004_1) := (blk_cell BK342.out 4).trans rfl
                        have hfz93_0 := blk_frozen BK342.out 0
                        have hfz93_1 := blk_frozen BK342.out 1
                        have hfz93_2 := blk_frozen BK342.out 2
                        have hfz93_3 := blk_frozen BK342.out 3
                        have hfz93_4 := blk_frozen BK342.out 4
                        go_wp2_with (first | ((with_reducible refine gate_callee (f := 19) rfl ?_); refine goesL_ (some 79) rfl rfl Try.func19 (by kernel_rfl) rfl #[.agg #[.slice A0_0 l0_0.length c0_0, .int .i64 ji4, .int .i64 a0_2, .int .i64 a0_3], .agg #[.int .i64 x343000_1, .int .i64 x343001_1, .int .i64 x343002_1, .int .i64 x343003_1, .string x343004_1], .int .i64 ji24] rfl (by (try simp only [List.map_toArray, List.map_cons, List.map_nil]); first | done | (simp only [hji24, hji4]; rfl) | rfl | (simp only [List.length_drop, List.length_take]; rfl)) ?_; (with_reducible refine (task_Fail.calls k1 _ _ l0_0 ji4 a0_2 a0_3 x343000_1 x343001_1 x343002_1 x343003_1 x343004_1 ji24 t366 t367 t368 t369 t370 t371 _ ?side1 ?side2 A86.out).mono ?_); (case side1 => exact Kd.C_below HR0_0.out (by repeat (first | (with_reducible first | exact HB.out | apply below_alloc | apply pw_below_drewN | apply below_drew1 | refine below_set ?_ GE336.out | refine below_set ?_ GE342.out | refine below_set ?_ GE345.out | refine below_set ?_ GE347.out) | exact HB.out))); (case side2 => exact HC0_0.out); rintro e w94 ⟨rfl, hb⟩; refine ⟨_, rfl, ?_⟩; have n0_ := Aside0.mk (blk_below (g := gb336) (o := .cells #[.slice A0_0 l0_0.length c0_0, .int .i64 ji4, .int .i64 a0_2, .int .i64 a0_3] 24 (0, 0)) (by (with_reducible repeat (first | refine blk_drewN ?_ _ | refine blk_drew ?_ | refine blk_alloc ?_ _)); refine blk_far ?_ NB336_347.out _; (with_reducible repeat (first | refine blk_drewN ?_ _ | refine blk_drew ?_ | refine blk_alloc ?_ _)); refine blk_far ?_ NB336_347.out _; (with_reducible repeat (first | refine blk_drewN ?_ _ | refine blk_drew ?_ | refine blk_alloc ?_ _)); refine blk_far ?_ NB336_347.out _; (with_reducible repeat (first | refine blk_drewN ?_ _ | refine blk_drew ?_ | refine blk_alloc ?_ _)); refine blk_far ?_ NB336_347.out _; (with_reducible repeat (first | refine blk_drewN ?_ _ | refine blk_drew ?_ | refine blk_alloc ?_ _)); refine blk_far ?_ NB336_347.out _; (with_reducible repeat (first | refine blk_drewN ?_ _ | refine blk_drew ?_ | refine blk_alloc ?_ _)); exact BK336.out) hb); have n1_ := Aside0.mk (blk_below (g := gb342) (o := .cells #[.int .i64 x343000_1, .int .i64 x343001_1, .int .i64 x343002_1, .int .i64 x343003_1, .string x343004_1] 26 (0, 0)) (by (with_reducible repeat (first | refine blk_drewN ?_ _ | refine blk_drew ?_ | refine blk_alloc ?_ _)); refine blk_far ?_ NB342_347.out _; (with_reducible repeat (first | refine blk_drewN ?_ _ | refine blk_drew ?_ | refine blk_alloc ?_ _)); refine blk_far ?_ NB342_347.out _; (with_reducible repeat (first | refine blk_drewN ?_ _ | refine blk_drew ?_ | refine blk_alloc ?_ _)); refine blk_far ?_ NB342_347.out _; (with_reducible repeat (first | refine blk_drewN ?_ _ | refine blk_drew ?_ | refine blk_alloc ?_ _)); refine blk_far ?_ NB342_347.out _; (with_reducible repeat (first | refine blk_drewN ?_ _ | refine blk_drew ?_ | refine blk_alloc ?_ _)); refine blk_far ?_ NB342_347.out _; (with_reducible repeat (first | refine blk_drewN ?_ _ | refine blk_drew ?_ | refine blk_alloc ?_ _)); exact BK342.out) hb); have n2_ := Aside0.mk (blk_below (g := gb345) (o := .cells #[.int .i64 ((rd_T42 l1 x22_1).f0), .int .i64 ((rd_T42 l1 x22_1).f1)] 42 (0, 0)) (by (with_reducible repeat (first | refine blk_drewN ?_ _ | refine blk_drew ?_ | refine blk_alloc ?_ _)); refine blk_far ?_ NB345_347.out _; (with_reducible repeat (first | refine blk_drewN ?_ _ | refine blk_drew ?_ | refine blk_alloc ?_ _)); refine blk_far ?_ NB345_347.out _; (with_reducible repeat (first | refine blk_drewN ?_ _ | refine blk_drew ?_ | refine blk_alloc ?_ _)); refine blk_far ?_ NB345_347.out _; (with_reducible repeat (first | refine blk_drewN ?_ _ | refine blk_drew ?_ | refine blk_alloc ?_ _)); refine blk_far ?_ NB345_347.out _; (with_reducible repeat (first | refine blk_drewN ?_ _ | refine blk_drew ?_ | refine blk_alloc ?_ _)); refine blk_far ?_ NB345_347.out _; (with_reducible repeat (first | refine blk_drewN ?_ _ | refine blk_drew ?_ | refine blk_alloc ?_ _)); exact BK345.out) hb); have n3_ := Aside0.mk (blk_below (g := gb347) (o := .cells #[.int .i64 x343000_1, .int .i64 x343001_1, .int .i64 x343002_1, .int .i64 x343003_1, .string x343004_1] 26 (0, 0)) (by (with_reducible repeat (first | refine blk_drewN ?_ _ | refine blk_drew ?_ | refine blk_alloc ?_ _)); refine blk_put (cs := #[.int .i64 x343000_1, .int .i64 x343001_1, .int .i64 x343002_1, .int .i64 x343003_1, .string (⟨#[]⟩ : ByteArray)]) ?_ 4 _ rfl; (with_reducible repeat (first | refine blk_drewN ?_ _ | refine blk_drew ?_ | refine blk_alloc ?_ _)); refine blk_put (cs := #[.int .i64 x343000_1, .int .i64 x343001_1, .int .i64 x343002_1, .int .i64 0, .string (⟨#[]⟩ : ByteArray)]) ?_ 3 _ rfl; (with_reducible repeat (first | refine blk_drewN ?_ _ | refine blk_drew ?_ | refine blk_alloc ?_ _)); refine blk_put (cs := #[.int .i64 x343000_1, .int .i64 x343001_1, .int .i64 0, .int .i64 0, .string (⟨#[]⟩ : ByteArray)]) ?_ 2 _ rfl; (with_reducible repeat (first | refine blk_drewN ?_ _ | refine blk_drew ?_ | refine blk_alloc ?_ _)); refine blk_put (cs := #[.int .i64 x343000_1, .int .i64 0, .int .i64 0, .int .i64 0, .string (⟨#[]⟩ : ByteArray)]) ?_ 1 _ rfl; (with_reducible repeat (first | refine blk_drewN ?_ _ | refine blk_drew ?_ | refine blk_alloc ?_ _)); refine blk_put (cs := #[.int .i64 0, .int .i64 0, .int .i64 0, .int .i64 0, .string (⟨#[]⟩ : ByteArray)]) ?_ 0 _ rfl; (with_reducible repeat (first | refine blk_drewN ?_ _ | refine blk_drew ?_ | refine blk_alloc ?_ _)); exact BK347.out) hb); have n4_ := Aside0.mk (below_step (by repeat (first | (with_reducible first | exact HB.out | apply below_alloc | apply pw_below_drewN | apply below_drew1 | refine below_set ?_ GE336.out | refine below_set ?_ GE342.out | refine below_set ?_ GE345.out | refine below_set ?_ GE347.out) | exact HB.out)) hb); clear BK336; clear BK342; clear BK345; clear BK347; clear HB; have BK336 := n0_; have BK342 := n1_; have BK345 := n2_; have BK347 := n3_; have HB := n4_; clear n0_ n1_ n2_ n3_ n4_; (try clear hb); (try clear hb2); (try clear hk); (try clear hi); have hnb95 := NB347_345.out; have hnc95 := NB345_347.out; have hcz96_0 : w94.cell? ⟨gb347, 0, none⟩ = some (.int .i64 x343000_1) := (blk_cell BK347.out 0).trans rfl; have hcz96_1 : w94.cell? ⟨gb347, 1, none⟩ = some (.int .i64 x343001_1) := (blk_cell BK347.out 1).trans rfl; have hcz96_2 : w94.cell? ⟨gb347, 2, none⟩ = some (.int .i64 x343002_1) := (blk_cell BK347.out 2).trans rfl; have hcz96_3 : w94.cell? ⟨gb347, 3, none⟩ = some (.int .i64 x343003_1) := (blk_cell BK347.out 3).trans rfl; have hcz96_4 : w94.cell? ⟨gb347, 4, none⟩ = some (.string x343004_1) := (blk_cell BK347.out 4).trans rfl; have hfz96_0 := blk_frozen BK347.out 0; have hfz96_1 := blk_frozen BK347.out 1; have hfz96_2 := blk_frozen BK347.out 2; have hfz96_3 := blk_frozen BK347.out 3; have hfz96_4 := blk_frozen BK347.out 4))
                        go_meet
                        case rel => exact ⟨_, (x7_1), (t371), (t366), (t367), (t368), (t369), (t370), (by first | rfl | (simp; done) | (simp [*]; done)), (by first | rfl | (simp; done) | (simp [*]; done)), H', ⟨by have := HK1.out; first | omega | exact Nat.le_refl _⟩, ⟨by (with_reducible repeat (first | refine blk_drewN ?_ _ | refine blk_drew ?_ | refine blk_alloc ?_ _)); refine blk_far ?_ NB336_347.out _; (with_reducible repeat (first | refine blk_drewN ?_ _ | refine blk_drew ?_ | refine blk_alloc ?_ _)); refine blk_far ?_ NB336_347.out _; (with_reducible repeat (first | refine blk_drewN ?_ _ | refine blk_drew ?_ | refine blk_alloc ?_ _)); refine blk_far ?_ NB336_347.out _; (with_reducible repeat (first | refine blk_drewN ?_ _ | refine blk_drew ?_ | refine blk_alloc ?_ _)); refine blk_far ?_ NB336_347.out _; (with_reducible repeat (first | refine blk_drewN ?_ _ | refine blk_drew ?_ | refine blk_alloc ?_ _)); refine blk_far ?_ NB336_347.out _; (with_reducible repeat (first | refine blk_drewN ?_ _ | refine blk_drew ?_ | refine blk_alloc ?_ _)); exact BK336.out⟩, ⟨by (with_reducible repeat (first | refine blk_drewN ?_ _ | refine blk_drew ?_ | refine blk_alloc ?_ _)); refine blk_far ?_ NB342_347.out _; (with_reducible repeat (first | refine blk_drewN ?_ _ | refine blk_drew ?_ | refine blk_alloc ?_ _)); refine blk_far ?_ NB342_347.out _; (with_reducible repeat (first | refine blk_drewN ?_ _ | refine blk_drew ?_ | refine blk_alloc ?_ _)); refine blk_far ?_ NB342_347.out _; (with_reducible repeat (first | refine blk_drewN ?_ _ | refine blk_drew ?_ | refine blk_alloc ?_ _)); refine blk_far ?_ NB342_347.out _; (with_reducible repeat (first | refine blk_drewN ?_ _ | refine blk_drew ?_ | refine blk_alloc ?_ _)); refine blk_far ?_ NB342_347.out _; (with_reducible repeat (first | refine blk_drewN ?_ _ | refine blk_drew ?_ | refine blk_alloc ?_ _)); exact BK342.out⟩, ⟨by (with_reducible repeat (first | refine blk_drewN ?_ _ | refine blk_drew ?_ | refine blk_alloc ?_ _)); refine blk_far ?_ NB345_347.out _; (with_reducible repeat (first | refine blk_drewN ?_ _ | refine blk_drew ?_ | refine blk_alloc ?_ _)); refine blk_far ?_ NB345_347.out _; (with_reducible repeat (first | refine blk_drewN ?_ _ | refine blk_drew ?_ | refine blk_alloc ?_ _)); refine blk_far ?_ NB345_347.out _; (with_reducible repeat (first | refine blk_drewN ?_ _ | refine blk_drew ?_ | refine blk_alloc ?_ _)); refine blk_far ?_ NB345_347.out _; (with_reducible repeat (first | refine blk_drewN ?_ _ | refine blk_drew ?_ | refine blk_alloc ?_ _)); refine blk_far ?_ NB345_347.out _; (with_reducible repeat (first | refine blk_drewN ?_ _ | refine blk_drew ?_ | refine blk_alloc ?_ _)); exact BK345.out⟩, ⟨by (with_reducible repeat (first | refine blk_drewN ?_ _ | refine blk_drew ?_ | refine blk_alloc ?_ _)); refine blk_put (cs := #[.int .i64 t366, .int .i64 t367, .int .i64 t368, .int .i64 t369, .string x343004_1]) ?_ 4 _ rfl; (with_reducible repeat (first | refine blk_drewN ?_ _ | refine blk_drew ?_ | refine blk_alloc ?_ _)); refine blk_put (cs := #[.int .i64 t366, .int .i64 t367, .int .i64 t368, .int .i64 x343003_1, .string x343004_1]) ?_ 3 _ rfl; (with_reducible repeat (first | refine blk_drewN ?_ _ | refine blk_drew ?_ | refine blk_alloc ?_ _)); refine blk_put (cs := #[.int .i64 t366, .int .i64 t367, .int .i64 x343002_1, .int .i64 x343003_1, .string x343004_1]) ?_ 2 _ rfl; (with_reducible repeat (first | refine blk_drewN ?_ _ | refine blk_drew ?_ | refine blk_alloc ?_ _)); refine blk_put (cs := #[.int .i64 t366, .int .i64 x343001_1, .int .i64 x343002_1, .int .i64 x343003_1, .string x343004_1]) ?_ 1 _ rfl; (with_reducible repeat (first | refine blk_drewN ?_ _ | refine blk_drew ?_ | refine blk_alloc ?_ _)); refine blk_put (cs := #[.int .i64 x343000_1, .int .i64 x343001_1, .int .i64 x343002_1, .int .i64 x343003_1, .string x343004_1]) ?_ 0 _ rfl; (with_reducible repeat (first | refine blk_drewN ?_ _ | refine blk_drew ?_ | refine blk_alloc ?_ _)); exact BK347.out⟩, ⟨by repeat (first | (with_reducible first | exact HB.out | apply below_alloc | apply pw_below_drewN | apply below_drew1 | refine below_set ?_ GE336.out | refine below_set ?_ GE342.out | refine below_set ?_ GE345.out | refine below_set ?_ GE347.out) | exact HB.out)⟩⟩
                      · rw [if_neg c85] at H
                        have c85b0 : (((rd_T42 l1 x22_1).f0) == 3) = false := beq_eq_false_iff_ne.mpr c85
                        have c85b1 : (((rd_T42 l1 x22_1).f0) != 3) = true := bne_iff_ne.mpr c85
                        by_cases c97 : ((rd_T42 l1 x22_1).f0) = 4
                        · rw [if_pos c97] at H
                          have c97b0 : (((rd_T42 l1 x22_1).f0) == 4) = true := beq_iff_eq.mpr c97
                          have c97b1 : (((rd_T42 l1 x22_1).f0) != 4) = false := bne_eq_false_iff_eq.mpr c97
                          clear c97
                          replace H := Option.bind_eq_some_iff.mp H
                          obtain ⟨⟨t372, t373, t374, t375, t376⟩, A980, H⟩ := H
                          replace H : (penelopelaw18_TaskLasts.j1 k1 ji24 x7_1 0 l1 (l1.length : Int) x22_1 l0_0 ji4 a0_2 a0_3 x343000_1 x343001_1 x343002_1 x343003_1 x343004_1 t372 t373 t374 t375 t376) = some r := H
                          have A98 := Aside0.mk A980
                          clear A980
                          have H' := Aside0.mk H
                          clear H
                          have hnb99 := NB336_342.out
                          have hnc99 := NB342_336.out
                          have hnb100 := NB336_345.out
                          have hnc100 := NB345_336.out
                          have hnb101 := NB336_347.out
                          have hnc101 := NB347_336.out
                          have hcz102_0 : w32.cell? ⟨gb336, 0, none⟩ = some (.slice A0_0 l0_0.length c0_0) := (blk_cell BK336.out 0).trans rfl
                          have hcz102_1 : w32.cell? ⟨gb336, 1, none⟩ = some (.int .i64 ji4) := (blk_cell BK336.out 1).trans rfl
                          have hcz102_2 : w32.cell? ⟨gb336, 2, none⟩ = some (.int .i64 a0_2) := (blk_cell BK336.out 2).trans rfl
                          have hcz102_3 : w32.cell? ⟨gb336, 3, none⟩ = some (.int .i64 a0_3) := (blk_cell BK336.out 3).trans rfl
                          have hfz102_0 := blk_frozen BK336.out 0
                          have hfz102_1 := blk_frozen BK336.out 1
                          have hfz102_2 := blk_frozen BK336.out 2
                          have hfz102_3 := blk_frozen BK336.out 3
                          have hnb103 := NB342_345.out
                          have hnc103 := NB345_342.out
                          have hnb104 := NB342_347.out
                          have hnc104 := NB347_342.out
                          have hcz105_0 : w32.cell? ⟨gb342, 0, none⟩ = some (.int .i64 x343000_1) := (blk_cell BK342.out 0).trans rfl
                          have hcz105_1 : w32.cell? ⟨gb342, 1, none⟩ = some (.int .i64 x343001_1) := (blk_cell BK342.out 1).trans rfl
                          have hcz105_2 : w32.cell? ⟨gb342, 2, none⟩ = some (.int .i64 x343002_1) := (blk_cell BK342.out 2).trans rfl
                          have hcz105_3 : w32.cell? ⟨gb342, 3, none⟩ = some (.int .i64 x343003_1) := (blk_cell BK342.out 3).trans rfl
                          have hcz105_4 : w32.cell? ⟨gb342, 4, none⟩ = some (.string x343004_1) := (blk_cell BK342.out 4).trans rfl
                          have hfz105_0 := blk_frozen BK342.out 0
                          have hfz105_1 := blk_frozen BK342.out 1
                          have hfz105_2 := blk_frozen BK342.out 2
                          have hfz105_3 := blk_frozen BK342.out 3
                          have hfz105_4 := blk_frozen BK342.out 4
                          go_wp2_with (first | ((with_reducible refine gate_callee (f := 15) rfl ?_); refine goesL_ (some 87) rfl rfl Try.func15 (by kernel_rfl) rfl #[.agg #[.slice A0_0 l0_0.length c0_0, .int .i64 ji4, .int .i64 a0_2, .int .i64 a0_3], .agg #[.int .i64 x343000_1, .int .i64 x343001_1, .int .i64 x343002_1, .int .i64 x343003_1, .string x343004_1], .int .i64 ji24] rfl (by (try simp only [List.map_toArray, List.map_cons, List.map_nil]); first | done | (simp only [hji24, hji4]; rfl) | rfl | (simp only [List.length_drop, List.length_take]; rfl)) ?_; (with_reducible refine (task_Expire.calls k1 _ _ l0_0 ji4 a0_2 a0_3 x343000_1 x343001_1 x343002_1 x343003_1 x343004_1 ji24 t372 t373 t374 t375 t376 _ ?side1 ?side2 A98.out).mono ?_); (case side1 => exact Kd.C_below HR0_0.out (by repeat (first | (with_reducible first | exact HB.out | apply below_alloc | apply pw_below_drewN | apply below_drew1 | refine below_set ?_ GE336.out | refine below_set ?_ GE342.out | refine below_set ?_ GE345.out | refine below_set ?_ GE347.out) | exact HB.out))); (case side2 => exact HC0_0.out); rintro e w106 ⟨rfl, hb⟩; refine ⟨_, rfl, ?_⟩; have n0_ := Aside0.mk (blk_below (g := gb336) (o := .cells #[.slice A0_0 l0_0.length c0_0, .int .i64 ji4, .int .i64 a0_2, .int .i64 a0_3] 24 (0, 0)) (by (with_reducible repeat (first | refine blk_drewN ?_ _ | refine blk_drew ?_ | refine blk_alloc ?_ _)); refine blk_far ?_ NB336_347.out _; (with_reducible repeat (first | refine blk_drewN ?_ _ | refine blk_drew ?_ | refine blk_alloc ?_ _)); refine blk_far ?_ NB336_347.out _; (with_reducible repeat (first | refine blk_drewN ?_ _ | refine blk_drew ?_ | refine blk_alloc ?_ _)); refine blk_far ?_ NB336_347.out _; (with_reducible repeat (first | refine blk_drewN ?_ _ | refine blk_drew ?_ | refine blk_alloc ?_ _)); refine blk_far ?_ NB336_347.out _; (with_reducible repeat (first | refine blk_drewN ?_ _ | refine blk_drew ?_ | refine blk_alloc ?_ _)); refine blk_far ?_ NB336_347.out _; (with_reducible repeat (first | refine blk_drewN ?_ _ | refine blk_drew ?_ | refine blk_alloc ?_ _)); exact BK336.out) hb); have n1_ := Aside0.mk (blk_below (g := gb342) (o := .cells #[.int .i64 x343000_1, .int .i64 x343001_1, .int .i64 x343002_1, .int .i64 x343003_1, .string x343004_1] 26 (0, 0)) (by (with_reducible repeat (first | refine blk_drewN ?_ _ | refine blk_drew ?_ | refine blk_alloc ?_ _)); refine blk_far ?_ NB342_347.out _; (with_reducible repeat (first | refine blk_drewN ?_ _ | refine blk_drew ?_ | refine blk_alloc ?_ _)); refine blk_far ?_ NB342_347.out _; (with_reducible repeat (first | refine blk_drewN ?_ _ | refine blk_drew ?_ | refine blk_alloc ?_ _)); refine blk_far ?_ NB342_347.out _; (with_reducible repeat (first | refine blk_drewN ?_ _ | refine blk_drew ?_ | refine blk_alloc ?_ _)); refine blk_far ?_ NB342_347.out _; (with_reducible repeat (first | refine blk_drewN ?_ _ | refine blk_drew ?_ | refine blk_alloc ?_ _)); refine blk_far ?_ NB342_347.out _; (with_reducible repeat (first | refine blk_drewN ?_ _ | refine blk_drew ?_ | refine blk_alloc ?_ _)); exact BK342.out) hb); have n2_ := Aside0.mk (blk_below (g := gb345) (o := .cells #[.int .i64 ((rd_T42 l1 x22_1).f0), .int .i64 ((rd_T42 l1 x22_1).f1)] 42 (0, 0)) (by (with_reducible repeat (first | refine blk_drewN ?_ _ | refine blk_drew ?_ | refine blk_alloc ?_ _)); refine blk_far ?_ NB345_347.out _; (with_reducible repeat (first | refine blk_drewN ?_ _ | refine blk_drew ?_ | refine blk_alloc ?_ _)); refine blk_far ?_ NB345_347.out _; (with_reducible repeat (first | refine blk_drewN ?_ _ | refine blk_drew ?_ | refine blk_alloc ?_ _)); refine blk_far ?_ NB345_347.out _; (with_reducible repeat (first | refine blk_drewN ?_ _ | refine blk_drew ?_ | refine blk_alloc ?_ _)); refine blk_far ?_ NB345_347.out _; (with_reducible repeat (first | refine blk_drewN ?_ _ | refine blk_drew ?_ | refine blk_alloc ?_ _)); refine blk_far ?_ NB345_347.out _; (with_reducible repeat (first | refine blk_drewN ?_ _ | refine blk_drew ?_ | refine blk_alloc ?_ _)); exact BK345.out) hb); have n3_ := Aside0.mk (blk_below (g := gb347) (o := .cells #[.int .i64 x343000_1, .int .i64 x343001_1, .int .i64 x343002_1, .int .i64 x343003_1, .string x343004_1] 26 (0, 0)) (by (with_reducible repeat (first | refine blk_drewN ?_ _ | refine blk_drew ?_ | refine blk_alloc ?_ _)); refine blk_put (cs := #[.int .i64 x343000_1, .int .i64 x343001_1, .int .i64 x343002_1, .int .i64 x343003_1, .string (⟨#[]⟩ : ByteArray)]) ?_ 4 _ rfl; (with_reducible repeat (first | refine blk_drewN ?_ _ | refine blk_drew ?_ | refine blk_alloc ?_ _)); refine blk_put (cs := #[.int .i64 x343000_1, .int .i64 x343001_1, .int .i64 x343002_1, .int .i64 0, .string (⟨#[]⟩ : ByteArray)]) ?_ 3 _ rfl; (with_reducible repeat (first | refine blk_drewN ?_ _ | refine blk_drew ?_ | refine blk_alloc ?_ _)); refine blk_put (cs := #[.int .i64 x343000_1, .int .i64 x343001_1, .int .i64 0, .int .i64 0, .string (⟨#[]⟩ : ByteArray)]) ?_ 2 _ rfl; (with_reducible repeat (first | refine blk_drewN ?_ _ | refine blk_drew ?_ | refine blk_alloc ?_ _)); refine blk_put (cs := #[.int .i64 x343000_1, .int .i64 0, .int .i64 0, .int .i64 0, .string (⟨#[]⟩ : ByteArray)]) ?_ 1 _ rfl; (with_reducible repeat (first | refine blk_drewN ?_ _ | refine blk_drew ?_ | refine blk_alloc ?_ _)); refine blk_put (cs := #[.int .i64 0, .int .i64 0, .int .i64 0, .int .i64 0, .string (⟨#[]⟩ : ByteArray)]) ?_ 0 _ rfl; (with_reducible repeat (first | refine blk_drewN ?_ _ | refine blk_drew ?_ | refine blk_alloc ?_ _)); exact BK347.out) hb); have n4_ := Aside0.mk (below_step (by repeat (first | (with_reducible first | exact HB.out | apply below_alloc | apply pw_below_drewN | apply below_drew1 | refine below_set ?_ GE336.out | refine below_set ?_ GE342.out | refine below_set ?_ GE345.out | refine below_set ?_ GE347.out) | exact HB.out)) hb); clear BK336; clear BK342; clear BK345; clear BK347; clear HB; have BK336 := n0_; have BK342 := n1_; have BK345 := n2_; have BK347 := n3_; have HB := n4_; clear n0_ n1_ n2_ n3_ n4_; (try clear hb); (try clear hb2); (try clear hk); (try clear hi); have hnb107 := NB347_345.out; have hnc107 := NB345_347.out; have hcz108_0 : w106.cell? ⟨gb347, 0, none⟩ = some (.int .i64 x343000_1) := (blk_cell BK347.out 0).trans rfl; have hcz108_1 : w106.cell? ⟨gb347, 1, none⟩ = some (.int .i64 x343001_1) := (blk_cell BK347.out 1).trans rfl; have hcz108_2 : w106.cell? ⟨gb347, 2, none⟩ = some (.int .i64 x343002_1) := (blk_cell BK347.out 2).trans rfl; have hcz108_3 : w106.cell? ⟨gb347, 3, none⟩ = some (.int .i64 x343003_1) := (blk_cell BK347.out 3).trans rfl; have hcz108_4 : w106.cell? ⟨gb347, 4, none⟩ = some (.string x343004_1) := (blk_cell BK347.out 4).trans rfl; have hfz108_0 := blk_frozen BK347.out 0; have hfz108_1 := blk_frozen BK347.out 1; have hfz108_2 := blk_frozen BK347.out 2; have hfz108_3 := blk_frozen BK347.out 3; have hfz108_4 := blk_frozen BK347.out 4))
                          go_meet
                          case rel => exact ⟨_, (x7_1), (0), (t372), (t373), (t374), (t375), (t376), (by first | rfl | (simp; done) | (simp [*]; done)), (by first | rfl | (simp; done) | (simp [*]; done)), H', ⟨by have := HK1.out; first | omega | exact Nat.le_refl _⟩, ⟨by (with_reducible repeat (first | refine blk_drewN ?_ _ | refine blk_drew ?_ | refine blk_alloc ?_ _)); refine blk_far ?_ NB336_347.out _; (with_reducible repeat (first | refine blk_drewN ?_ _ | refine blk_drew ?_ | refine blk_alloc ?_ _)); refine blk_far ?_ NB336_347.out _; (with_reducible repeat (first | refine blk_drewN ?_ _ | refine blk_drew ?_ | refine blk_alloc ?_ _)); refine blk_far ?_ NB336_347.out _; (with_reducible repeat (first | refine blk_drewN ?_ _ | refine blk_drew ?_ | refine blk_alloc ?_ _)); refine blk_far ?_ NB336_347.out _; (with_reducible repeat (first | refine blk_drewN ?_ _ | refine blk_drew ?_ | refine blk_alloc ?_ _)); refine blk_far ?_ NB336_347.out _; (with_reducible repeat (first | refine blk_drewN ?_ _ | refine blk_drew ?_ | refine blk_alloc ?_ _)); exact BK336.out⟩, ⟨by (with_reducible repeat (first | refine blk_drewN ?_ _ | refine blk_drew ?_ | refine blk_alloc ?_ _)); refine blk_far ?_ NB342_347.out _; (with_reducible repeat (first | refine blk_drewN ?_ _ | refine blk_drew ?_ | refine blk_alloc ?_ _)); refine blk_far ?_ NB342_347.out _; (with_reducible repeat (first | refine blk_drewN ?_ _ | refine blk_drew ?_ | refine blk_alloc ?_ _)); refine blk_far ?_ NB342_347.out _; (with_reducible repeat (first | refine blk_drewN ?_ _ | refine blk_drew ?_ | refine blk_alloc ?_ _)); refine blk_far ?_ NB342_347.out _; (with_reducible repeat (first | refine blk_drewN ?_ _ | refine blk_drew ?_ | refine blk_alloc ?_ _)); refine blk_far ?_ NB342_347.out _; (with_reducible repeat (first | refine blk_drewN ?_ _ | refine blk_drew ?_ | refine blk_alloc ?_ _)); exact BK342.out⟩, ⟨by (with_reducible repeat (first | refine blk_drewN ?_ _ | refine blk_drew ?_ | refine blk_alloc ?_ _)); refine blk_far ?_ NB345_347.out _; (with_reducible repeat (first | refine blk_drewN ?_ _ | refine blk_drew ?_ | refine blk_alloc ?_ _)); refine blk_far ?_ NB345_347.out _; (with_reducible repeat (first | refine blk_drewN ?_ _ | refine blk_drew ?_ | refine blk_alloc ?_ _)); refine blk_far ?_ NB345_347.out _; (with_reducible repeat (first | refine blk_drewN ?_ _ | refine blk_drew ?_ | refine blk_alloc ?_ _)); refine blk_far ?_ NB345_347.out _; (with_reducible repeat (first | refine blk_drewN ?_ _ | refine blk_drew ?_ | refine blk_alloc ?_ _)); refine blk_far ?_ NB345_347.out _; (with_reducible repeat (first | refine blk_drewN ?_ _ | refine blk_drew ?_ | refine blk_alloc ?_ _)); exact BK345.out⟩, ⟨by (with_reducible repeat (first | refine blk_drewN ?_ _ | refine blk_drew ?_ | refine blk_alloc ?_ _)); refine blk_put (cs := #[.int .i64 t372, .int .i64 t373, .int .i64 t374, .int .i64 t375, .string x343004_1]) ?_ 4 _ rfl; (with_reducible repeat (first | refine blk_drewN ?_ _ | refine blk_drew ?_ | refine blk_alloc ?_ _)); refine blk_put (cs := #[.int .i64 t372, .int .i64 t373, .int .i64 t374, .int .i64 x343003_1, .string x343004_1]) ?_ 3 _ rfl; (with_reducible repeat (first | refine blk_drewN ?_ _ | refine blk_drew ?_ | refine blk_alloc ?_ _)); refine blk_put (cs := #[.int .i64 t372, .int .i64 t373, .int .i64 x343002_1, .int .i64 x343003_1, .string x343004_1]) ?_ 2 _ rfl; (with_reducible repeat (first | refine blk_drewN ?_ _ | refine blk_drew ?_ | refine blk_alloc ?_ _)); refine blk_put (cs := #[.int .i64 t372, .int .i64 x343001_1, .int .i64 x343002_1, .int .i64 x343003_1, .string x343004_1]) ?_ 1 _ rfl; (with_reducible repeat (first | refine blk_drewN ?_ _ | refine blk_drew ?_ | refine blk_alloc ?_ _)); refine blk_put (cs := #[.int .i64 x343000_1, .int .i64 x343001_1, .int .i64 x343002_1, .int .i64 x343003_1, .string x343004_1]) ?_ 0 _ rfl; (with_reducible repeat (first | refine blk_drewN ?_ _ | refine blk_drew ?_ | refine blk_alloc ?_ _)); exact BK347.out⟩, ⟨by repeat (first | (with_reducible first | exact HB.out | apply below_alloc | apply pw_below_drewN | apply below_drew1 | refine below_set ?_ GE336.out | refine below_set ?_ GE342.out | refine below_set ?_ GE345.out | refine below_set ?_ GE347.out) | exact HB.out)⟩⟩
                        · rw [if_neg c97] at H
                          have c97b0 : (((rd_T42 l1 x22_1).f0) == 4) = false := beq_eq_false_iff_ne.mpr c97
                          have c97b1 : (((rd_T42 l1 x22_1).f0) != 4) = true := bne_iff_ne.mpr c97
                          replace H := Option.bind_eq_some_iff.mp H
                          obtain ⟨⟨t377, t378, t379, t380, t381⟩, A1090, H⟩ := H
                          replace H : (penelopelaw18_TaskLasts.j1 k1 ji24 x7_1 0 l1 (l1.length : Int) x22_1 l0_0 ji4 a0_2 a0_3 x343000_1 x343001_1 x343002_1 x343003_1 x343004_1 t377 t378 t379 t380 t381) = some r := H
                          have A109 := Aside0.mk A1090
                          clear A1090
                          have H' := Aside0.mk H
                          clear H
                          have hnb110 := NB342_336.out
                          have hnc110 := NB336_342.out
                          have hnb111 := NB342_345.out
                          have hnc111 := NB345_342.out
                          have hnb112 := NB342_347.out
                          have hnc112 := NB347_342.out
                          have hcz113_0 : w32.cell? ⟨gb342, 0, none⟩ = some (.int .i64 x343000_1) := (blk_cell BK342.out 0).trans rfl
                          have hcz113_1 : w32.cell? ⟨gb342, 1, none⟩ = some (.int .i64 x343001_1) := (blk_cell BK342.out 1).trans rfl
                          have hcz113_2 : w32.cell? ⟨gb342, 2, none⟩ = some (.int .i64 x343002_1) := (blk_cell BK342.out 2).trans rfl
                          have hcz113_3 : w32.cell? ⟨gb342, 3, none⟩ = some (.int .i64 x343003_1) := (blk_cell BK342.out 3).trans rfl
                          have hcz113_4 : w32.cell? ⟨gb342, 4, none⟩ = some (.string x343004_1) := (blk_cell BK342.out 4).trans rfl
                          have hfz113_0 := blk_frozen BK342.out 0
                          have hfz113_1 := blk_frozen BK342.out 1
                          have hfz113_2 := blk_frozen BK342.out 2
                          have hfz113_3 := blk_frozen BK342.out 3
                          have hfz113_4 := blk_frozen BK342.out 4
                          go_wp2_with (first | ((with_reducible refine gate_callee (f := 25) rfl ?_); refine goesL_ (some 40) rfl rfl Try.func25 (by kernel_rfl) rfl #[.agg #[.int .i64 x343000_1, .int .i64 x343001_1, .int .i64 x343002_1, .int .i64 x343003_1, .string x343004_1]] rfl (by (try simp only [List.map_toArray, List.map_cons, List.map_nil]); first | done | rfl | (simp only [List.length_drop, List.length_take]; rfl)) ?_; (with_reducible refine (task_Cancel.calls x343000_1 x343001_1 x343002_1 x343003_1 x343004_1 t377 t378 t379 t380 t381 _ A109.out).mono ?_); rintro e w114 ⟨rfl, hb⟩; refine ⟨_, rfl, ?_⟩; have n0_ := Aside0.mk (blk_below (g := gb336) (o := .cells #[.slice A0_0 l0_0.length c0_0, .int .i64 ji4, .int .i64 a0_2, .int .i64 a0_3] 24 (0, 0)) (by (with_reducible repeat (first | refine blk_drewN ?_ _ | refine blk_drew ?_ | refine blk_alloc ?_ _)); refine blk_far ?_ NB336_347.out _; (with_reducible repeat (first | refine blk_drewN ?_ _ | refine blk_drew ?_ | refine blk_alloc ?_ _)); refine blk_far ?_ NB336_347.out _; (with_reducible repeat (first | refine blk_drewN ?_ _ | refine blk_drew ?_ | refine blk_alloc ?_ _)); refine blk_far ?_ NB336_347.out _; (with_reducible repeat (first | refine blk_drewN ?_ _ | refine blk_drew ?_ | refine blk_alloc ?_ _)); refine blk_far ?_ NB336_347.out _; (with_reducible repeat (first | refine blk_drewN ?_ _ | refine blk_drew ?_ | refine blk_alloc ?_ _)); refine blk_far ?_ NB336_347.out _; (with_reducible repeat (first | refine blk_drewN ?_ _ | refine blk_drew ?_ | refine blk_alloc ?_ _)); exact BK336.out) hb); have n1_ := Aside0.mk (blk_below (g := gb342) (o := .cells #[.int .i64 x343000_1, .int .i64 x343001_1, .int .i64 x343002_1, .int .i64 x343003_1, .string x343004_1] 26 (0, 0)) (by (with_reducible repeat (first | refine blk_drewN ?_ _ | refine blk_drew ?_ | refine blk_alloc ?_ _)); refine blk_far ?_ NB342_347.out _; (with_reducible repeat (first | refine blk_drewN ?_ _ | refine blk_drew ?_ | refine blk_alloc ?_ _)); refine blk_far ?_ NB342_347.out _; (with_reducible repeat (first | refine blk_drewN ?_ _ | refine blk_drew ?_ | refine blk_alloc ?_ _)); refine blk_far ?_ NB342_347.out _; (with_reducible repeat (first | refine blk_drewN ?_ _ | refine blk_drew ?_ | refine blk_alloc ?_ _)); refine blk_far ?_ NB342_347.out _; (with_reducible repeat (first | refine blk_drewN ?_ _ | refine blk_drew ?_ | refine blk_alloc ?_ _)); refine blk_far ?_ NB342_347.out _; (with_reducible repeat (first | refine blk_drewN ?_ _ | refine blk_drew ?_ | refine blk_alloc ?_ _)); exact BK342.out) hb); have n2_ := Aside0.mk (blk_below (g := gb345) (o := .cells #[.int .i64 ((rd_T42 l1 x22_1).f0), .int .i64 ((rd_T42 l1 x22_1).f1)] 42 (0, 0)) (by (with_reducible repeat (first | refine blk_drewN ?_ _ | refine blk_drew ?_ | refine blk_alloc ?_ _)); refine blk_far ?_ NB345_347.out _; (with_reducible repeat (first | refine blk_drewN ?_ _ | refine blk_drew ?_ | refine blk_alloc ?_ _)); refine blk_far ?_ NB345_347.out _; (with_reducible repeat (first | refine blk_drewN ?_ _ | refine blk_drew ?_ | refine blk_alloc ?_ _)); refine blk_far ?_ NB345_347.out _; (with_reducible repeat (first | refine blk_drewN ?_ _ | refine blk_drew ?_ | refine blk_alloc ?_ _)); refine blk_far ?_ NB345_347.out _; (with_reducible repeat (first | refine blk_drewN ?_ _ | refine blk_drew ?_ | refine blk_alloc ?_ _)); refine blk_far ?_ NB345_347.out _; (with_reducible repeat (first | refine blk_drewN ?_ _ | refine blk_drew ?_ | refine blk_alloc ?_ _)); exact BK345.out) hb); have n3_ := Aside0.mk (blk_below (g := gb347) (o := .cells #[.int .i64 x343000_1, .int .i64 x343001_1, .int .i64 x343002_1, .int .i64 x343003_1, .string x343004_1] 26 (0, 0)) (by (with_reducible repeat (first | refine blk_drewN ?_ _ | refine blk_drew ?_ | refine blk_alloc ?_ _)); refine blk_put (cs := #[.int .i64 x343000_1, .int .i64 x343001_1, .int .i64 x343002_1, .int .i64 x343003_1, .string (⟨#[]⟩ : ByteArray)]) ?_ 4 _ rfl; (with_reducible repeat (first | refine blk_drewN ?_ _ | refine blk_drew ?_ | refine blk_alloc ?_ _)); refine blk_put (cs := #[.int .i64 x343000_1, .int .i64 x343001_1, .int .i64 x343002_1, .int .i64 0, .string (⟨#[]⟩ : ByteArray)]) ?_ 3 _ rfl; (with_reducible repeat (first | refine blk_drewN ?_ _ | refine blk_drew ?_ | refine blk_alloc ?_ _)); refine blk_put (cs := #[.int .i64 x343000_1, .int .i64 x343001_1, .int .i64 0, .int .i64 0, .string (⟨#[]⟩ : ByteArray)]) ?_ 2 _ rfl; (with_reducible repeat (first | refine blk_drewN ?_ _ | refine blk_drew ?_ | refine blk_alloc ?_ _)); refine blk_put (cs := #[.int .i64 x343000_1, .int .i64 0, .int .i64 0, .int .i64 0, .string (⟨#[]⟩ : ByteArray)]) ?_ 1 _ rfl; (with_reducible repeat (first | refine blk_drewN ?_ _ | refine blk_drew ?_ | refine blk_alloc ?_ _)); refine blk_put (cs := #[.int .i64 0, .int .i64 0, .int .i64 0, .int .i64 0, .string (⟨#[]⟩ : ByteArray)]) ?_ 0 _ rfl; (with_reducible repeat (first | refine blk_drewN ?_ _ | refine blk_drew ?_ | refine blk_alloc ?_ _)); exact BK347.out) hb); have n4_ := Aside0.mk (below_step (by repeat (first | (with_reducible first | exact HB.out | apply below_alloc | apply pw_below_drewN | apply below_drew1 | refine below_set ?_ GE336.out | refine below_set ?_ GE342.out | refine below_set ?_ GE345.out | refine below_set ?_ GE347.out) | exact HB.out)) hb); clear BK336; clear BK342; clear BK345; clear BK347; clear HB; have BK336 := n0_; have BK342 := n1_; have BK345 := n2_; have BK347 := n3_; have HB := n4_; clear n0_ n1_ n2_ n3_ n4_; (try clear hb); (try clear hb2); (try clear hk); (try clear hi); have hnb115 := NB347_336.out; have hnc115 := NB336_347.out; have hnb116 := NB347_345.out; have hnc116 := NB345_347.out; have hcz117_0 : w114.cell? ⟨gb347, 0, none⟩ = some (.int .i64 x343000_1) := (blk_cell BK347.out 0).trans rfl; have hcz117_1 : w114.cell? ⟨gb347, 1, none⟩ = some (.int .i64 x343001_1) := (blk_cell BK347.out 1).trans rfl; have hcz117_2 : w114.cell? ⟨gb347, 2, none⟩ = some (.int .i64 x343002_1) := (blk_cell BK347.out 2).trans rfl; have hcz117_3 : w114.cell? ⟨gb347, 3, none⟩ = some (.int .i64 x343003_1) := (blk_cell BK347.out 3).trans rfl; have hcz117_4 : w114.cell? ⟨gb347, 4, none⟩ = some (.string x343004_1) := (blk_cell BK347.out 4).trans rfl; have hfz117_0 := blk_frozen BK347.out 0; have hfz117_1 := blk_frozen BK347.out 1; have hfz117_2 := blk_frozen BK347.out 2; have hfz117_3 := blk_frozen BK347.out 3; have hfz117_4 := blk_frozen BK347.out 4))
                          go_meet
                          case rel => exact ⟨_, (x7_1), (0), (t377), (t378), (t379), (t380), (t381), (by first | rfl | (simp; done) | (simp [*]; done)), (by first | rfl | (simp; done) | (simp [*]; done)), H', ⟨by have := HK1.out; first | omega | exact Nat.le_refl _⟩, ⟨by (with_reducible repeat (first | refine blk_drewN ?_ _ | refine blk_drew ?_ | refine blk_alloc ?_ _)); refine blk_far ?_ NB336_347.out _; (with_reducible repeat (first | refine blk_drewN ?_ _ | refine blk_drew ?_ | refine blk_alloc ?_ _)); refine blk_far ?_ NB336_347.out _; (with_reducible repeat (first | refine blk_drewN ?_ _ | refine blk_drew ?_ | refine blk_alloc ?_ _)); refine blk_far ?_ NB336_347.out _; (with_reducible repeat (first | refine blk_drewN ?_ _ | refine blk_drew ?_ | refine blk_alloc ?_ _)); refine blk_far ?_ NB336_347.out _; (with_reducible repeat (first | refine blk_drewN ?_ _ | refine blk_drew ?_ | refine blk_alloc ?_ _)); refine blk_far ?_ NB336_347.out _; (with_reducible repeat (first | refine blk_drewN ?_ _ | refine blk_drew ?_ | refine blk_alloc ?_ _)); exact BK336.out⟩, ⟨by (with_reducible repeat (first | refine blk_drewN ?_ _ | refine blk_drew ?_ | refine blk_alloc ?_ _)); refine blk_far ?_ NB342_347.out _; (with_reducible repeat (first | refine blk_drewN ?_ _ | refine blk_drew ?_ | refine blk_alloc ?_ _)); refine blk_far ?_ NB342_347.out _; (with_reducible repeat (first | refine blk_drewN ?_ _ | refine blk_drew ?_ | refine blk_alloc ?_ _)); refine blk_far ?_ NB342_347.out _; (with_reducible repeat (first | refine blk_drewN ?_ _ | refine blk_drew ?_ | refine blk_alloc ?_ _)); refine blk_far ?_ NB342_347.out _; (with_reducible repeat (first | refine blk_drewN ?_ _ | refine blk_drew ?_ | refine blk_alloc ?_ _)); refine blk_far ?_ NB342_347.out _; (with_reducible repeat (first | refine blk_drewN ?_ _ | refine blk_drew ?_ | refine blk_alloc ?_ _)); exact BK342.out⟩, ⟨by (with_reducible repeat (first | refine blk_drewN ?_ _ | refine blk_drew ?_ | refine blk_alloc ?_ _)); refine blk_far ?_ NB345_347.out _; (with_reducible repeat (first | refine blk_drewN ?_ _ | refine blk_drew ?_ | refine blk_alloc ?_ _)); refine blk_far ?_ NB345_347.out _; (with_reducible repeat (first | refine blk_drewN ?_ _ | refine blk_drew ?_ | refine blk_alloc ?_ _)); refine blk_far ?_ NB345_347.out _; (with_reducible repeat (first | refine blk_drewN ?_ _ | refine blk_drew ?_ | refine blk_alloc ?_ _)); refine blk_far ?_ NB345_347.out _; (with_reducible repeat (first | refine blk_drewN ?_ _ | refine blk_drew ?_ | refine blk_alloc ?_ _)); refine blk_far ?_ NB345_347.out _; (with_reducible repeat (first | refine blk_drewN ?_ _ | refine blk_drew ?_ | refine blk_alloc ?_ _)); exact BK345.out⟩, ⟨by (with_reducible repeat (first | refine blk_drewN ?_ _ | refine blk_drew ?_ | refine blk_alloc ?_ _)); refine blk_put (cs := #[.int .i64 t377, .int .i64 t378, .int .i64 t379, .int .i64 t380, .string x343004_1]) ?_ 4 _ rfl; (with_reducible repeat (first | refine blk_drewN ?_ _ | refine blk_drew ?_ | refine blk_alloc ?_ _)); refine blk_put (cs := #[.int .i64 t377, .int .i64 t378, .int .i64 t379, .int .i64 x343003_1, .string x343004_1]) ?_ 3 _ rfl; (with_reducible repeat (first | refine blk_drewN ?_ _ | refine blk_drew ?_ | refine blk_alloc ?_ _)); refine blk_put (cs := #[.int .i64 t377, .int .i64 t378, .int .i64 x343002_1, .int .i64 x343003_1, .string x343004_1]) ?_ 2 _ rfl; (with_reducible repeat (first | refine blk_drewN ?_ _ | refine blk_drew ?_ | refine blk_alloc ?_ _)); refine blk_put (cs := #[.int .i64 t377, .int .i64 x343001_1, .int .i64 x343002_1, .int .i64 x343003_1, .string x343004_1]) ?_ 1 _ rfl; (with_reducible repeat (first | refine blk_drewN ?_ _ | refine blk_drew ?_ | refine blk_alloc ?_ _)); refine blk_put (cs := #[.int .i64 x343000_1, .int .i64 x343001_1, .int .i64 x343002_1, .int .i64 x343003_1, .string x343004_1]) ?_ 0 _ rfl; (with_reducible repeat (first | refine blk_drewN ?_ _ | refine blk_drew ?_ | refine blk_alloc ?_ _)); exact BK347.out⟩, ⟨by repeat (first | (with_reducible first | exact HB.out | apply below_alloc | apply pw_below_drewN | apply below_drew1 | refine below_set ?_ GE336.out | refine below_set ?_ GE342.out | refine below_set ?_ GE345.out | refine below_set ?_ GE347.out) | exact HB.out)⟩⟩
              case rest =>
                clear HC25
                try clear c1
                try clear c2
                try clear p2
                try clear c3
                try clear p3
                try clear q3
                try clear hx3
                try clear c4
                try clear c5
                try clear c6
                try clear p6
                try clear c7
                try clear c8
                try clear c9
                try clear c10
                try clear c11
                try clear c12
                try clear c12b0
                try clear c13
                try clear c13b0
                try clear c14
                try clear c14b0
                try clear c15
                try clear c15b0
                try clear c17
                try clear c18
                try clear c19
                try clear c22
                try clear c25
                try clear c27
                try clear c28
                try clear c30
                try clear c33
                try clear c34
                try clear p34
                try clear q34
                try clear hx34
                try clear c35
                try clear c38
                try clear c38b0
                try clear c38b1
                try clear c40
                try clear c40b0
                try clear c40b1
                try clear c41
                try clear c42
                try clear c43
                try clear c45
                try clear c46
                try clear c49
                try clear c51
                try clear c52
                try clear c53
                try clear c55
                try clear c56
                try clear c59
                try clear c61
                try clear c61b0
                try clear c61b1
                try clear c63
                try clear c64
                try clear p64
                try clear c65
                try clear c67
                try clear c68
                try clear c71
                try clear c73
                try clear c73b0
                try clear c73b1
                try clear c75
                try clear c76
                try clear c77
                try clear c79
                try clear c80
                try clear c83
                try clear c85
                try clear c85b0
                try clear c85b1
                try clear c87
                try clear c88
                try clear c89
                try clear c91
                try clear c92
                try clear c95
                try clear c97
                try clear c97b0
                try clear c97b1
                try clear c99
                try clear c100
                try clear c101
                try clear c103
                try clear c104
                try clear c107
                try clear c110
                try clear c111
                try clear c112
                try clear c115
                try clear c116
                try clear hcz102_0
                try clear hcz102_1
                try clear hcz102_2
                try clear hcz102_3
                try clear hcz105_0
                try clear hcz105_1
                try clear hcz105_2
                try clear hcz105_3
                try clear hcz105_4
                try clear hcz108_0
                try clear hcz108_1
                try clear hcz108_2
                try clear hcz108_3
                try clear hcz108_4
                try clear hcz113_0
                try clear hcz113_1
                try clear hcz113_2
                try clear hcz113_3
                try clear hcz113_4
                try clear hcz117_0
                try clear hcz117_1
                try clear hcz117_2
                try clear hcz117_3
                try clear hcz117_4
                try clear hcz11_0
                try clear hcz11_1
                try clear hcz11_2
                try clear hcz11_3
                try clear hcz11_4
                try clear hcz20_0
                try clear hcz20_1
                try clear hcz29_0
                try clear hcz29_1
                try clear hcz31_0
                try clear hcz31_1
                try clear hcz31_2
                try clear hcz31_3
                try clear hcz31_4
                try clear hcz36_0
                try clear hcz36_1
                try clear hcz36_2
                try clear hcz36_3
                try clear hcz36_4
                try clear hcz37_0
                try clear hcz37_1
                try clear hcz44_0
                try clear hcz44_1
                try clear hcz44_2
                try clear hcz44_3
                try clear hcz47_0
                try clear hcz47_1
                try clear hcz47_2
                try clear hcz47_3
                try clear hcz47_4
                try clear hcz50_0
                try clear hcz50_1
                try clear hcz50_2
                try clear hcz50_3
                try clear hcz50_4
                try clear hcz54_0
                try clear hcz54_1
                try clear hcz54_2
                try clear hcz54_3
                try clear hcz57_0
                try clear hcz57_1
                try clear hcz57_2
                try clear hcz57_3
                try clear hcz57_4
                try clear hcz60_0
                try clear hcz60_1
                try clear hcz60_2
                try clear hcz60_3
                try clear hcz60_4
                try clear hcz66_0
                try clear hcz66_1
                try clear hcz66_2
                try clear hcz66_3
                try clear hcz69_0
                try clear hcz69_1
                try clear hcz69_2
                try clear hcz69_3
                try clear hcz69_4
                try clear hcz72_0
                try clear hcz72_1
                try clear hcz72_2
                try clear hcz72_3
                try clear hcz72_4
                try clear hcz78_0
                try clear hcz78_1
                try clear hcz78_2
                try clear hcz78_3
                try clear hcz7_0
                try clear hcz7_1
                try clear hcz7_2
                try clear hcz7_3
                try clear hcz81_0
                try clear hcz81_1
                try clear hcz81_2
                try clear hcz81_3
                try clear hcz81_4
                try clear hcz84_0
                try clear hcz84_1
                try clear hcz84_2
                try clear hcz84_3
                try clear hcz84_4
                try clear hcz90_0
                try clear hcz90_1
                try clear hcz90_2
                try clear hcz90_3
                try clear hcz93_0
                try clear hcz93_1
                try clear hcz93_2
                try clear hcz93_3
                try clear hcz93_4
                try clear hcz96_0
                try clear hcz96_1
                try clear hcz96_2
                try clear hcz96_3
                try clear hcz96_4
                try clear hfz102_0
                try clear hfz102_1
                try clear hfz102_2
                try clear hfz102_3
                try clear hfz105_0
                try clear hfz105_1
                try clear hfz105_2
                try clear hfz105_3
                try clear hfz105_4
                try clear hfz108_0
                try clear hfz108_1
                try clear hfz108_2
                try clear hfz108_3
                try clear hfz108_4
                try clear hfz113_0
                try clear hfz113_1
                try clear hfz113_2
                try clear hfz113_3
                try clear hfz113_4
                try clear hfz117_0
                try clear hfz117_1
                try clear hfz117_2
                try clear hfz117_3
                try clear hfz117_4
                try clear hfz11_0
                try clear hfz11_1
                try clear hfz11_2
                try clear hfz11_3
                try clear hfz11_4
                try clear hfz20_0
                try clear hfz20_1
                try clear hfz29_0
                try clear hfz29_1
                try clear hfz31_0
                try clear hfz31_1
                try clear hfz31_2
                try clear hfz31_3
                try clear hfz31_4
                try clear hfz36_0
                try clear hfz36_1
                try clear hfz36_2
                try clear hfz36_3
                try clear hfz36_4
                try clear hfz37_0
                try clear hfz37_1
                try clear hfz44_0
                try clear hfz44_1
                try clear hfz44_2
                try clear hfz44_3
                try clear hfz47_0
                try clear hfz47_1
                try clear hfz47_2
                try clear hfz47_3
                try clear hfz47_4
                try clear hfz50_0
                try clear hfz50_1
                try clear hfz50_2
                try clear hfz50_3
                try clear hfz50_4
                try clear hfz54_0
                try clear hfz54_1
                try clear hfz54_2
                try clear hfz54_3
                try clear hfz57_0
                try clear hfz57_1
                try clear hfz57_2
                try clear hfz57_3
                try clear hfz57_4
                try clear hfz60_0
                try clear hfz60_1
                try clear hfz60_2
                try clear hfz60_3
                try clear hfz60_4
                try clear hfz66_0
                try clear hfz66_1
                try clear hfz66_2
                try clear hfz66_3
                try clear hfz69_0
                try clear hfz69_1
                try clear hfz69_2
                try clear hfz69_3
                try clear hfz69_4
                try clear hfz72_0
                try clear hfz72_1
                try clear hfz72_2
                try clear hfz72_3
                try clear hfz72_4
                try clear hfz78_0
                try clear hfz78_1
                try clear hfz78_2
                try clear hfz78_3
                try clear hfz7_0
                try clear hfz7_1
                try clear hfz7_2
                try clear hfz7_3
                try clear hfz81_0
                try clear hfz81_1
                try clear hfz81_2
                try clear hfz81_3
                try clear hfz81_4
                try clear hfz84_0
                try clear hfz84_1
                try clear hfz84_2
                try clear hfz84_3
                try clear hfz84_4
                try clear hfz90_0
                try clear hfz90_1
                try clear hfz90_2
                try clear hfz90_3
                try clear hfz93_0
                try clear hfz93_1
                try clear hfz93_2
                try clear hfz93_3
                try clear hfz93_4
                try clear hfz96_0
                try clear hfz96_1
                try clear hfz96_2
                try clear hfz96_3
                try clear hfz96_4
                try clear hx344_0
                try clear hx344_1
                try clear p2
                try clear p344
                try clear q344
                obtain ⟨kq, x7_24, x11_24, x348000_24, x348001_24, x348002_24, x348003_24, x348004_24, rfl, rfl, HA, HJ24, BK336, BK342, BK345, BK347, HB⟩ := hcut
                cases kq with
                | zero => exact absurd HA.out (by simp [penelopelaw18_TaskLasts.j1])
                | succ kj24 =>
                  have H := HA.out
                  clear HA
                  simp only [penelopelaw18_TaskLasts.j1] at H
                  have HC118 := Aside0.mk H
                  clear H
                  go_upto_region 24 with (fail)
                  go_cut [12] (fun v12 wc => ∃ (kq : Nat) (x12_117 : Bool), v12 = .bool x12_117 ∧ Aside0 (penelopelaw18_TaskLasts.j2 kq ji24 x7_24 x11_24 x12_117 l1 (l1.length : Int) x22_1 l0_0 ji4 a0_2 a0_3 x343000_1 x343001_1 x343002_1 x343003_1 x343004_1 x348000_24 x348001_24 x348002_24 x348003_24 x348004_24 = some r) ∧ Aside0 (kq ≤ kj24) ∧ Aside0 (wc.heap[gb336]? = some (.cells #[(.slice A0_0 l0_0.length c0_0), .int .i64 ji4, .int .i64 a0_2, .int .i64 a0_3] 24 (0, 0))) ∧ Aside0 (wc.heap[gb342]? = some (.cells #[.int .i64 x343000_1, .int .i64 x343001_1, .int .i64 x343002_1, .int .i64 x343003_1, .string x343004_1] 26 (0, 0))) ∧ Aside0 (wc.heap[gb345]? = some (.cells #[.int .i64 ((rd_T42 l1 x22_1).f0), .int .i64 ((rd_T42 l1 x22_1).f1)] 42 (0, 0))) ∧ Aside0 (wc.heap[gb347]? = some (.cells #[.int .i64 x348000_24, .int .i64 x348001_24, .int .i64 x348002_24, .int .i64 x348003_24, .string x348004_24] 26 (0, 0))) ∧ Aside0 (Below w.heap.size w wc))
                  case first =>
                    have H := HC118.out
                    clear HC118
                    by_cases c119 : x343000_1 = 3
                    · rw [if_pos c119] at H
                      have c119b0 : (x343000_1 == 3) = true := beq_iff_eq.mpr c119
                      have c119b1 : (x343000_1 != 3) = false := bne_eq_false_iff_eq.mpr c119
                      clear c119
                      (first | rw [c119b0] | (simp only [i64_w, i32_w]; rw [c119b0]) | skip)
                      have H' := Aside0.mk H
                      clear H
                      have hnb120 := NB342_336.out
                      have hnc120 := NB336_342.out
                      have hnb121 := NB342_345.out
                      have hnc121 := NB345_342.out
                      have hnb122 := NB342_347.out
                      have hnc122 := NB347_342.out
                      have hcz123_0 : wc.cell? ⟨gb342, 0, none⟩ = some (.int .i64 x343000_1) := (blk_cell BK342.out 0).trans rfl
                      have hcz123_1 : wc.cell? ⟨gb342, 1, none⟩ = some (.int .i64 x343001_1) := (blk_cell BK342.out 1).trans rfl
                      have hcz123_2 : wc.cell? ⟨gb342, 2, none⟩ = some (.int .i64 x343002_1) := (blk_cell BK342.out 2).trans rfl
                      have hcz123_3 : wc.cell? ⟨gb342, 3, none⟩ = some (.int .i64 x343003_1) := (blk_cell BK342.out 3).trans rfl
                      have hcz123_4 : wc.cell? ⟨gb342, 4, none⟩ = some (.string x343004_1) := (blk_cell BK342.out 4).trans rfl
                      have hfz123_0 := blk_frozen BK342.out 0
                      have hfz123_1 := blk_frozen BK342.out 1
                      have hfz123_2 := blk_frozen BK342.out 2
                      have hfz123_3 := blk_frozen BK342.out 3
                      have hfz123_4 := blk_frozen BK342.out 4
                      go_wp2
                      go_meet
                      case rel => exact ⟨_, (true), (by first | rfl | (simp; done) | (simp [*]; done)), H', ⟨by have := HK1.out; have := HJ24.out; first | omega | exact Nat.le_refl _⟩, ⟨by (with_reducible repeat (first | refine blk_drewN ?_ _ | refine blk_drew ?_ | refine blk_alloc ?_ _)); exact BK336.out⟩, ⟨by (with_reducible repeat (first | refine blk_drewN ?_ _ | refine blk_drew ?_ | refine blk_alloc ?_ _)); exact BK342.out⟩, ⟨by (with_reducible repeat (first | refine blk_drewN ?_ _ | refine blk_drew ?_ | refine blk_alloc ?_ _)); exact BK345.out⟩, ⟨by (with_reducible repeat (first | refine blk_drewN ?_ _ | refine blk_drew ?_ | refine blk_alloc ?_ _)); exact BK347.out⟩, ⟨by repeat (first | (with_reducible first | exact HB.out | apply below_alloc | apply pw_below_drewN | apply below_drew1 | refine below_set ?_ GE336.out | refine below_set ?_ GE342.out | refine below_set ?_ GE345.out | refine below_set ?_ GE347.out) | exact HB.out)⟩⟩
                    · rw [if_neg c119] at H
                      have c119b0 : (x343000_1 == 3) = false := beq_eq_false_iff_ne.mpr c119
                      have c119b1 : (x343000_1 != 3) = true := bne_iff_ne.mpr c119
                      (first | rw [c119b0] | (simp only [i64_w, i32_w]; rw [c119b0]) | skip)
                      by_cases c124 : x343000_1 = 4
                      · rw [if_pos c124] at H
                        have c124b0 : (x343000_1 == 4) = true := beq_iff_eq.mpr c124
                        have c124b1 : (x343000_1 != 4) = false := bne_eq_false_iff_eq.mpr c124
                        clear c124
                        have H' := Aside0.mk H
                        clear H
                        have hnb125 := NB342_336.out
                        have hnc125 := NB336_342.out
                        have hnb126 := NB342_345.out
                        have hnc126 := NB345_342.out
                        have hnb127 := NB342_347.out
                        have hnc127 := NB347_342.out
                        have hcz128_0 : wc.cell? ⟨gb342, 0, none⟩ = some (.int .i64 x343000_1) := (blk_cell BK342.out 0).trans rfl
                        have hcz128_1 : wc.cell? ⟨gb342, 1, none⟩ = some (.int .i64 x343001_1) := (blk_cell BK342.out 1).trans rfl
                        have hcz128_2 : wc.cell? ⟨gb342, 2, none⟩ = some (.int .i64 x343002_1) := (blk_cell BK342.out 2).trans rfl
                        have hcz128_3 : wc.cell? ⟨gb342, 3, none⟩ = some (.int .i64 x343003_1) := (blk_cell BK342.out 3).trans rfl
                        have hcz128_4 : wc.cell? ⟨gb342, 4, none⟩ = some (.string x343004_1) := (blk_cell BK342.out 4).trans rfl
                        have hfz128_0 := blk_frozen BK342.out 0
                        have hfz128_1 := blk_frozen BK342.out 1
                        have hfz128_2 := blk_frozen BK342.out 2
                        have hfz128_3 := blk_frozen BK342.out 3
                        have hfz128_4 := blk_frozen BK342.out 4
                        go_wp2
                        go_meet
                        case rel => exact ⟨_, (true), (by first | rfl | (simp; done) | (simp [*]; done)), H', ⟨by have := HK1.out; have := HJ24.out; first | omega | exact Nat.le_refl _⟩, ⟨by (with_reducible repeat (first | refine blk_drewN ?_ _ | refine blk_drew ?_ | refine blk_alloc ?_ _)); exact BK336.out⟩, ⟨by (with_reducible repeat (first | refine blk_drewN ?_ _ | refine blk_drew ?_ | refine blk_alloc ?_ _)); exact BK342.out⟩, ⟨by (with_reducible repeat (first | refine blk_drewN ?_ _ | refine blk_drew ?_ | refine blk_alloc ?_ _)); exact BK345.out⟩, ⟨by (with_reducible repeat (first | refine blk_drewN ?_ _ | refine blk_drew ?_ | refine blk_alloc ?_ _)); exact BK347.out⟩, ⟨by repeat (first | (with_reducible first | exact HB.out | apply below_alloc | apply pw_below_drewN | apply below_drew1 | refine below_set ?_ GE336.out | refine below_set ?_ GE342.out | refine below_set ?_ GE345.out | refine below_set ?_ GE347.out) | exact HB.out)⟩⟩
                      · rw [if_neg c124] at H
                        have c124b0 : (x343000_1 == 4) = false := beq_eq_false_iff_ne.mpr c124
                        have c124b1 : (x343000_1 != 4) = true := bne_iff_ne.mpr c124
                        have H' := Aside0.mk H
                        clear H
                        have hnb129 := NB342_336.out
                        have hnc129 := NB336_342.out
                        have hnb130 := NB342_345.out
                        have hnc130 := NB345_342.out
                        have hnb131 := NB342_347.out
                        have hnc131 := NB347_342.out
                        have hcz132_0 : wc.cell? ⟨gb342, 0, none⟩ = some (.int .i64 x343000_1) := (blk_cell BK342.out 0).trans rfl
                        have hcz132_1 : wc.cell? ⟨gb342, 1, none⟩ = some (.int .i64 x343001_1) := (blk_cell BK342.out 1).trans rfl
                        have hcz132_2 : wc.cell? ⟨gb342, 2, none⟩ = some (.int .i64 x343002_1) := (blk_cell BK342.out 2).trans rfl
                        have hcz132_3 : wc.cell? ⟨gb342, 3, none⟩ = some (.int .i64 x343003_1) := (blk_cell BK342.out 3).trans rfl
                        have hcz132_4 : wc.cell? ⟨gb342, 4, none⟩ = some (.string x343004_1) := (blk_cell BK342.out 4).trans rfl
                        have hfz132_0 := blk_frozen BK342.out 0
                        have hfz132_1 := blk_frozen BK342.out 1
                        have hfz132_2 := blk_frozen BK342.out 2
                        have hfz132_3 := blk_frozen BK342.out 3
                        have hfz132_4 := blk_frozen BK342.out 4
                        go_wp2
                        go_meet
                        case rel => exact ⟨_, ((x343000_1 == 5)), (by first | rfl | (simp; done) | (simp [*]; done)), H', ⟨by have := HK1.out; have := HJ24.out; first | omega | exact Nat.le_refl _⟩, ⟨by (with_reducible repeat (first | refine blk_drewN ?_ _ | refine blk_drew ?_ | refine blk_alloc ?_ _)); exact BK336.out⟩, ⟨by (with_reducible repeat (first | refine blk_drewN ?_ _ | refine blk_drew ?_ | refine blk_alloc ?_ _)); exact BK342.out⟩, ⟨by (with_reducible repeat (first | refine blk_drewN ?_ _ | refine blk_drew ?_ | refine blk_alloc ?_ _)); exact BK345.out⟩, ⟨by (with_reducible repeat (first | refine blk_drewN ?_ _ | refine blk_drew ?_ | refine blk_alloc ?_ _)); exact BK347.out⟩, ⟨by repeat (first | (with_reducible first | exact HB.out | apply below_alloc | apply pw_below_drewN | apply below_drew1 | refine below_set ?_ GE336.out | refine below_set ?_ GE342.out | refine below_set ?_ GE345.out | refine below_set ?_ GE347.out) | exact HB.out)⟩⟩
                  case rest =>
                    clear HC118
                    try clear c1
                    try clear c2
                    try clear p2
                    try clear c3
                    try clear p3
                    try clear q3
                    try clear hx3
                    try clear c4
                    try clear c5
                    try clear c6
                    try clear p6
                    try clear c7
                    try clear c8
                    try clear c9
                    try clear c10
                    try clear c11
                    try clear c12
                    try clear c12b0
                    try clear c13
                    try clear c13b0
                    try clear c14
                    try clear c14b0
                    try clear c15
                    try clear c15b0
                    try clear c17
                    try clear c18
                    try clear c19
                    try clear c22
                    try clear c25
                    try clear c27
                    try clear c28
                    try clear c30
                    try clear c33
                    try clear c34
                    try clear p34
                    try clear q34
                    try clear hx34
                    try clear c35
                    try clear c38
                    try clear c38b0
                    try clear c38b1
                    try clear c40
                    try clear c40b0
                    try clear c40b1
                    try clear c41
                    try clear c42
                    try clear c43
                    try clear c45
                    try clear c46
                    try clear c49
                    try clear c51
                    try clear c52
                    try clear c53
                    try clear c55
                    try clear c56
                    try clear c59
                    try clear c61
                    try clear c61b0
                    try clear c61b1
                    try clear c63
                    try clear c64
                    try clear p64
                    try clear c65
                    try clear c67
                    try clear c68
                    try clear c71
                    try clear c73
                    try clear c73b0
                    try clear c73b1
                    try clear c75
                    try clear c76
                    try clear c77
                    try clear c79
                    try clear c80
                    try clear c83
                    try clear c85
                    try clear c85b0
                    try clear c85b1
                    try clear c87
                    try clear c88
                    try clear c89
                    try clear c91
                    try clear c92
                    try clear c95
                    try clear c97
                    try clear c97b0
                    try clear c97b1
                    try clear c99
                    try clear c100
                    try clear c101
                    try clear c103
                    try clear c104
                    try clear c107
                    try clear c110
                    try clear c111
                    try clear c112
                    try clear c115
                    try clear c116
                    try clear c119
                    try clear c119b0
                    try clear c119b1
                    try clear c120
                    try clear c121
                    try clear c122
                    try clear c124
                    try clear c124b0
                    try clear c124b1
                    try clear c125
                    try clear c126
                    try clear c127
                    try clear c129
                    try clear c130
                    try clear c131
                    try clear hcz102_0
                    try clear hcz102_1
                    try clear hcz102_2
                    try clear hcz102_3
                    try clear hcz105_0
                    try clear hcz105_1
                    try clear hcz105_2
                    try clear hcz105_3
                    try clear hcz105_4
                    try clear hcz108_0
                    try clear hcz108_1
                    try clear hcz108_2
                    try clear hcz108_3
                    try clear hcz108_4
                    try clear hcz113_0
                    try clear hcz113_1
                    try clear hcz113_2
                    try clear hcz113_3
                    try clear hcz113_4
                    try clear hcz117_0
                    try clear hcz117_1
                    try clear hcz117_2
                    try clear hcz117_3
                    try clear hcz117_4
                    try clear hcz11_0
                    try clear hcz11_1
                    try clear hcz11_2
                    try clear hcz11_3
                    try clear hcz11_4
                    try clear hcz123_0
                    try clear hcz123_1
                    try clear hcz123_2
                    try clear hcz123_3
                    try clear hcz123_4
                    try clear hcz128_0
                    try clear hcz128_1
                    try clear hcz128_2
                    try clear hcz128_3
                    try clear hcz128_4
                    try clear hcz132_0
                    try clear hcz132_1
                    try clear hcz132_2
                    try clear hcz132_3
                    try clear hcz132_4
                    try clear hcz20_0
                    try clear hcz20_1
                    try clear hcz29_0
                    try clear hcz29_1
                    try clear hcz31_0
                    try clear hcz31_1
                    try clear hcz31_2
                    try clear hcz31_3
                    try clear hcz31_4
                    try clear hcz36_0
                    try clear hcz36_1
                    try clear hcz36_2
                    try clear hcz36_3
                    try clear hcz36_4
                    try clear hcz37_0
                    try clear hcz37_1
                    try clear hcz44_0
                    try clear hcz44_1
                    try clear hcz44_2
                    try clear hcz44_3
                    try clear hcz47_0
                    try clear hcz47_1
                    try clear hcz47_2
                    try clear hcz47_3
                    try clear hcz47_4
                    try clear hcz50_0
                    try clear hcz50_1
                    try clear hcz50_2
                    try clear hcz50_3
                    try clear hcz50_4
                    try clear hcz54_0
                    try clear hcz54_1
                    try clear hcz54_2
                    try clear hcz54_3
                    try clear hcz57_0
                    try clear hcz57_1
                    try clear hcz57_2
                    try clear hcz57_3
                    try clear hcz57_4
                    try clear hcz60_0
                    try clear hcz60_1
                    try clear hcz60_2
                    try clear hcz60_3
                    try clear hcz60_4
                    try clear hcz66_0
                    try clear hcz66_1
                    try clear hcz66_2
                    try clear hcz66_3
                    try clear hcz69_0
                    try clear hcz69_1
                    try clear hcz69_2
                    try clear hcz69_3
                    try clear hcz69_4
                    try clear hcz72_0
                    try clear hcz72_1
                    try clear hcz72_2
                    try clear hcz72_3
                    try clear hcz72_4
                    try clear hcz78_0
                    try clear hcz78_1
                    try clear hcz78_2
                    try clear hcz78_3
                    try clear hcz7_0
                    try clear hcz7_1
                    try clear hcz7_2
                    try clear hcz7_3
                    try clear hcz81_0
                    try clear hcz81_1
                    try clear hcz81_2
                    try clear hcz81_3
                    try clear hcz81_4
                    try clear hcz84_0
                    try clear hcz84_1
                    try clear hcz84_2
                    try clear hcz84_3
                    try clear hcz84_4
                    try clear hcz90_0
                    try clear hcz90_1
                    try clear hcz90_2
                    try clear hcz90_3
                    try clear hcz93_0
                    try clear hcz93_1
                    try clear hcz93_2
                    try clear hcz93_3
                    try clear hcz93_4
                    try clear hcz96_0
                    try clear hcz96_1
                    try clear hcz96_2
                    try clear hcz96_3
                    try clear hcz96_4
                    try clear hfz102_0
                    try clear hfz102_1
                    try clear hfz102_2
                    try clear hfz102_3
                    try clear hfz105_0
                    try clear hfz105_1
                    try clear hfz105_2
                    try clear hfz105_3
                    try clear hfz105_4
                    try clear hfz108_0
                    try clear hfz108_1
                    try clear hfz108_2
                    try clear hfz108_3
                    try clear hfz108_4
                    try clear hfz113_0
                    try clear hfz113_1
                    try clear hfz113_2
                    try clear hfz113_3
                    try clear hfz113_4
                    try clear hfz117_0
                    try clear hfz117_1
                    try clear hfz117_2
                    try clear hfz117_3
                    try clear hfz117_4
                    try clear hfz11_0
                    try clear hfz11_1
                    try clear hfz11_2
                    try clear hfz11_3
                    try clear hfz11_4
                    try clear hfz123_0
                    try clear hfz123_1
                    try clear hfz123_2
                    try clear hfz123_3
                    try clear hfz123_4
                    try clear hfz128_0
                    try clear hfz128_1
                    try clear hfz128_2
                    try clear hfz128_3
                    try clear hfz128_4
                    try clear hfz132_0
                    try clear hfz132_1
                    try clear hfz132_2
                    try clear hfz132_3
                    try clear hfz132_4
                    try clear hfz20_0
                    try clear hfz20_1
                    try clear hfz29_0
                    try clear hfz29_1
                    try clear hfz31_0
                    try clear hfz31_1
                    try clear hfz31_2
                    try clear hfz31_3
                    try clear hfz31_4
                    try clear hfz36_0
                    try clear hfz36_1
                    try clear hfz36_2
                    try clear hfz36_3
                    try clear hfz36_4
                    try clear hfz37_0
                    try clear hfz37_1
                    try clear hfz44_0
                    try clear hfz44_1
                    try clear hfz44_2
                    try clear hfz44_3
                    try clear hfz47_0
                    try clear hfz47_1
                    try clear hfz47_2
                    try clear hfz47_3
                    try clear hfz47_4
                    try clear hfz50_0
                    try clear hfz50_1
                    try clear hfz50_2
                    try clear hfz50_3
                    try clear hfz50_4
                    try clear hfz54_0
                    try clear hfz54_1
                    try clear hfz54_2
                    try clear hfz54_3
                    try clear hfz57_0
                    try clear hfz57_1
                    try clear hfz57_2
                    try clear hfz57_3
                    try clear hfz57_4
                    try clear hfz60_0
                    try clear hfz60_1
                    try clear hfz60_2
                    try clear hfz60_3
                    try clear hfz60_4
                    try clear hfz66_0
                    try clear hfz66_1
                    try clear hfz66_2
                    try clear hfz66_3
                    try clear hfz69_0
                    try clear hfz69_1
                    try clear hfz69_2
                    try clear hfz69_3
                    try clear hfz69_4
                    try clear hfz72_0
                    try clear hfz72_1
                    try clear hfz72_2
                    try clear hfz72_3
                    try clear hfz72_4
                    try clear hfz78_0
                    try clear hfz78_1
                    try clear hfz78_2
                    try clear hfz78_3
                    try clear hfz7_0
                    try clear hfz7_1
                    try clear hfz7_2
                    try clear hfz7_3
                    try clear hfz81_0
                    try clear hfz81_1
                    try clear hfz81_2
                    try clear hfz81_3
                    try clear hfz81_4
                    try clear hfz84_0
                    try clear hfz84_1
                    try clear hfz84_2
                    try clear hfz84_3
                    try clear hfz84_4
                    try clear hfz90_0
                    try clear hfz90_1
                    try clear hfz90_2
                    try clear hfz90_3
                    try clear hfz93_0
                    try clear hfz93_1
                    try clear hfz93_2
                    try clear hfz93_3
                    try clear hfz93_4
                    try clear hfz96_0
                    try clear hfz96_1
                    try clear hfz96_2
                    try clear hfz96_3
                    try clear hfz96_4
                    try clear hx344_0
                    try clear hx344_1
                    try clear p2
                    try clear p3
                    try clear p34
                    try clear p344
                    try clear p6
                    try clear p64
                    try clear q3
                    try clear q34
                    try clear q344
                    obtain ⟨kq, x12_117, rfl, HA, HJ117, BK336, BK342, BK345, BK347, HB⟩ := hcut
                    cases kq with
                    | zero => exact absurd HA.out (by simp [penelopelaw18_TaskLasts.j2])
                    | succ kj117 =>
                      have H := HA.out
                      clear HA
                      simp only [penelopelaw18_TaskLasts.j2] at H
                      have HC133 := Aside0.mk H
                      clear H
                      go_upto_if 102 with (fail)
                      go_cut [] (fun wc => ∃ (kq : Nat) (x348000_132 : Int) (x348001_132 : Int) (x348002_132 : Int) (x348003_132 : Int) (x348004_132 : ByteArray), Aside0 (penelopelaw18_TaskLasts.j3 kq ji24 x7_24 x12_117 l1 (l1.length : Int) x22_1 l0_0 ji4 a0_2 a0_3 x343000_1 x343001_1 x343002_1 x343003_1 x343004_1 x348000_132 x348001_132 x348002_132 x348003_132 x348004_132 = some r) ∧ Aside0 (kq ≤ kj117) ∧ Aside0 (wc.heap[gb336]? = some (.cells #[(.slice A0_0 l0_0.length c0_0), .int .i64 ji4, .int .i64 a0_2, .int .i64 a0_3] 24 (0, 0))) ∧ Aside0 (wc.heap[gb342]? = some (.cells #[.int .i64 x343000_1, .int .i64 x343001_1, .int .i64 x343002_1, .int .i64 x343003_1, .string x343004_1] 26 (0, 0))) ∧ Aside0 (wc.heap[gb345]? = some (.cells #[.int .i64 ((rd_T42 l1 x22_1).f0), .int .i64 ((rd_T42 l1 x22_1).f1)] 42 (0, 0))) ∧ Aside0 (wc.heap[gb347]? = some (.cells #[.int .i64 x348000_132, .int .i64 x348001_132, .int .i64 x348002_132, .int .i64 x348003_132, .string x348004_132] 26 (0, 0))) ∧ Aside0 (Below w.heap.size w wc))
                      case first =>
                        have H := HC133.out
                        clear HC133
                        by_cases c134 : x11_24 = 0
                        · rw [if_pos c134] at H
                          have c134b0 : (x11_24 == 0) = true := beq_iff_eq.mpr c134
                          have c134b1 : (x11_24 != 0) = false := bne_eq_false_iff_eq.mpr c134
                          clear c134
                          (first | rw [c134b0] | (simp only [i64_w, i32_w]; rw [c134b0]) | skip)
                          have H' := Aside0.mk H
                          clear H
                          go_wp2
                          go_meet
                          case rel => exact ⟨_, (x348000_24), (x348001_24), (x348002_24), (x348003_24), (x348004_24), H', ⟨by have := HK1.out; have := HJ24.out; have := HJ117.out; first | omega | exact Nat.le_refl _⟩, ⟨by (with_reducible repeat (first | refine blk_drewN ?_ _ | refine blk_drew ?_ | refine blk_alloc ?_ _)); exact BK336.out⟩, ⟨by (with_reducible repeat (first | refine blk_drewN ?_ _ | refine blk_drew ?_ | refine blk_alloc ?_ _)); exact BK342.out⟩, ⟨by (with_reducible repeat (first | refine blk_drewN ?_ _ | refine blk_drew ?_ | refine blk_alloc ?_ _)); exact BK345.out⟩, ⟨by (with_reducible repeat (first | refine blk_drewN ?_ _ | refine blk_drew ?_ | refine blk_alloc ?_ _)); exact BK347.out⟩, ⟨by repeat (first | (with_reducible first | exact HB.out | apply below_alloc | apply pw_below_drewN | apply below_drew1 | refine below_set ?_ GE336.out | refine below_set ?_ GE342.out | refine below_set ?_ GE345.out | refine below_set ?_ GE347.out) | exact HB.out)⟩⟩
                        · rw [if_neg c134] at H
                          have c134b0 : (x11_24 == 0) = false := beq_eq_false_iff_ne.mpr c134
                          have c134b1 : (x11_24 != 0) = true := bne_iff_ne.mpr c134
                          (first | rw [c134b0] | (simp only [i64_w, i32_w]; rw [c134b0]) | skip)
                          have H' := Aside0.mk H
                          clear H
                          have hnb135 := NB342_336.out
                          have hnc135 := NB336_342.out
                          have hnb136 := NB342_345.out
                          have hnc136 := NB345_342.out
                          have hnb137 := NB342_347.out
                          have hnc137 := NB347_342.out
                          have hcz138_0 : wc.cell? ⟨gb342, 0, none⟩ = some (.int .i64 x343000_1) := (blk_cell BK342.out 0).trans rfl
                          have hcz138_1 : wc.cell? ⟨gb342, 1, none⟩ = some (.int .i64 x343001_1) := (blk_cell BK342.out 1).trans rfl
                          have hcz138_2 : wc.cell? ⟨gb342, 2, none⟩ = some (.int .i64 x343002_1) := (blk_cell BK342.out 2).trans rfl
                          have hcz138_3 : wc.cell? ⟨gb342, 3, none⟩ = some (.int .i64 x343003_1) := (blk_cell BK342.out 3).trans rfl
                          have hcz138_4 : wc.cell? ⟨gb342, 4, none⟩ = some (.string x343004_1) := (blk_cell BK342.out 4).trans rfl
                          have hfz138_0 := blk_frozen BK342.out 0
                          have hfz138_1 := blk_frozen BK342.out 1
                          have hfz138_2 := blk_frozen BK342.out 2
                          have hfz138_3 := blk_frozen BK342.out 3
                          have hfz138_4 := blk_frozen BK342.out 4
                          have hnb139 := NB347_336.out
                          have hnc139 := NB336_347.out
                          have hnb140 := NB347_345.out
                          have hnc140 := NB345_347.out
                          have hcz141_0 : wc.cell? ⟨gb347, 0, none⟩ = some (.int .i64 x348000_24) := (blk_cell BK347.out 0).trans rfl
                          have hcz141_1 : wc.cell? ⟨gb347, 1, none⟩ = some (.int .i64 x348001_24) := (blk_cell BK347.out 1).trans rfl
                          have hcz141_2 : wc.cell? ⟨gb347, 2, none⟩ = some (.int .i64 x348002_24) := (blk_cell BK347.out 2).trans rfl
                          have hcz141_3 : wc.cell? ⟨gb347, 3, none⟩ = some (.int .i64 x348003_24) := (blk_cell BK347.out 3).trans rfl
                          have hcz141_4 : wc.cell? ⟨gb347, 4, none⟩ = some (.string x348004_24) := (blk_cell BK347.out 4).trans rfl
                          have hfz141_0 := blk_frozen BK347.out 0
                          have hfz141_1 := blk_frozen BK347.out 1
                          have hfz141_2 := blk_frozen BK347.out 2
                          have hfz141_3 := blk_frozen BK347.out 3
                          have hfz141_4 := blk_frozen BK347.out 4
                          go_wp2
                          go_meet
                          case rel => exact ⟨_, (x343000_1), (x343001_1), (x343002_1), (x343003_1), (x343004_1), H', ⟨by have := HK1.out; have := HJ24.out; have := HJ117.out; first | omega | exact Nat.le_refl _⟩, ⟨by (with_reducible repeat (first | refine blk_drewN ?_ _ | refine blk_drew ?_ | refine blk_alloc ?_ _)); refine blk_far ?_ NB336_347.out _; (with_reducible repeat (first | refine blk_drewN ?_ _ | refine blk_drew ?_ | refine blk_alloc ?_ _)); refine blk_far ?_ NB336_347.out _; (with_reducible repeat (first | refine blk_drewN ?_ _ | refine blk_drew ?_ | refine blk_alloc ?_ _)); refine blk_far ?_ NB336_347.out _; (with_reducible repeat (first | refine blk_drewN ?_ _ | refine blk_drew ?_ | refine blk_alloc ?_ _)); refine blk_far ?_ NB336_347.out _; (with_reducible repeat (first | refine blk_drewN ?_ _ | refine blk_drew ?_ | refine blk_alloc ?_ _)); refine blk_far ?_ NB336_347.out _; (with_reducible repeat (first | refine blk_drewN ?_ _ | refine blk_drew ?_ | refine blk_alloc ?_ _)); exact BK336.out⟩, ⟨by (with_reducible repeat (first | refine blk_drewN ?_ _ | refine blk_drew ?_ | refine blk_alloc ?_ _)); refine blk_far ?_ NB342_347.out _; (with_reducible repeat (first | refine blk_drewN ?_ _ | refine blk_drew ?_ | refine blk_alloc ?_ _)); refine blk_far ?_ NB342_347.out _; (with_reducible repeat (first | refine blk_drewN ?_ _ | refine blk_drew ?_ | refine blk_alloc ?_ _)); refine blk_far ?_ NB342_347.out _; (with_reducible repeat (first | refine blk_drewN ?_ _ | refine blk_drew ?_ | refine blk_alloc ?_ _)); refine blk_far ?_ NB342_347.out _; (with_reducible repeat (first | refine blk_drewN ?_ _ | refine blk_drew ?_ | refine blk_alloc ?_ _)); refine blk_far ?_ NB342_347.out _; (with_reducible repeat (first | refine blk_drewN ?_ _ | refine blk_drew ?_ | refine blk_alloc ?_ _)); exact BK342.out⟩, ⟨by (with_reducible repeat (first | refine blk_drewN ?_ _ | refine blk_drew ?_ | refine blk_alloc ?_ _)); refine blk_far ?_ NB345_347.out _; (with_reducible repeat (first | refine blk_drewN ?_ _ | refine blk_drew ?_ | refine blk_alloc ?_ _)); refine blk_far ?_ NB345_347.out _; (with_reducible repeat (first | refine blk_drewN ?_ _ | refine blk_drew ?_ | refine blk_alloc ?_ _)); refine blk_far ?_ NB345_347.out _; (with_reducible repeat (first | refine blk_drewN ?_ _ | refine blk_drew ?_ | refine blk_alloc ?_ _)); refine blk_far ?_ NB345_347.out _; (with_reducible repeat (first | refine blk_drewN ?_ _ | refine blk_drew ?_ | refine blk_alloc ?_ _)); refine blk_far ?_ NB345_347.out _; (with_reducible repeat (first | refine blk_drewN ?_ _ | refine blk_drew ?_ | refine blk_alloc ?_ _)); exact BK345.out⟩, ⟨by (with_reducible repeat (first | refine blk_drewN ?_ _ | refine blk_drew ?_ | refine blk_alloc ?_ _)); refine blk_put (cs := #[.int .i64 x343000_1, .int .i64 x343001_1, .int .i64 x343002_1, .int .i64 x343003_1, .string x348004_24]) ?_ 4 _ rfl; (with_reducible repeat (first | refine blk_drewN ?_ _ | refine blk_drew ?_ | refine blk_alloc ?_ _)); refine blk_put (cs := #[.int .i64 x343000_1, .int .i64 x343001_1, .int .i64 x343002_1, .int .i64 x348003_24, .string x348004_24]) ?_ 3 _ rfl; (with_reducible repeat (first | refine blk_drewN ?_ _ | refine blk_drew ?_ | refine blk_alloc ?_ _)); refine blk_put (cs := #[.int .i64 x343000_1, .int .i64 x343001_1, .int .i64 x348002_24, .int .i64 x348003_24, .string x348004_24]) ?_ 2 _ rfl; (with_reducible repeat (first | refine blk_drewN ?_ _ | refine blk_drew ?_ | refine blk_alloc ?_ _)); refine blk_put (cs := #[.int .i64 x343000_1, .int .i64 x348001_24, .int .i64 x348002_24, .int .i64 x348003_24, .string x348004_24]) ?_ 1 _ rfl; (with_reducible repeat (first | refine blk_drewN ?_ _ | refine blk_drew ?_ | refine blk_alloc ?_ _)); refine blk_put (cs := #[.int .i64 x348000_24, .int .i64 x348001_24, .int .i64 x348002_24, .int .i64 x348003_24, .string x348004_24]) ?_ 0 _ rfl; (with_reducible repeat (first | refine blk_drewN ?_ _ | refine blk_drew ?_ | refine blk_alloc ?_ _)); exact BK347.out⟩, ⟨by repeat (first | (with_reducible first | exact HB.out | apply below_alloc | apply pw_below_drewN | apply below_drew1 | refine below_set ?_ GE336.out | refine below_set ?_ GE342.out | refine below_set ?_ GE345.out | refine below_set ?_ GE347.out) | exact HB.out)⟩⟩
                      case rest =>
                        clear HC133
                        try clear c1
                        try clear c2
                        try clear p2
                        try clear c3
                        try clear p3
                        try clear q3
                        try clear hx3
                        try clear c4
                        try clear c5
                        try clear c6
                        try clear p6
                        try clear c7
                        try clear c8
                        try clear c9
                        try clear c10
                        try clear c11
                        try clear c12
                        try clear c12b0
                        try clear c13
                        try clear c13b0
                        try clear c14
                        try clear c14b0
                        try clear c15
                        try clear c15b0
                        try clear c17
                        try clear c18
                        try clear c19
                        try clear c22
                        try clear c25
                        try clear c27
                        try clear c28
                        try clear c30
                        try clear c33
                        try clear c34
                        try clear p34
                        try clear q34
                        try clear hx34
                        try clear c35
                        try clear c38
                        try clear c38b0
                        try clear c38b1
                        try clear c40
                        try clear c40b0
                        try clear c40b1
                        try clear c41
                        try clear c42
                        try clear c43
                        try clear c45
                        try clear c46
                        try clear c49
                        try clear c51
                        try clear c52
                        try clear c53
                        try clear c55
                        try clear c56
                        try clear c59
                        try clear c61
                        try clear c61b0
                        try clear c61b1
                        try clear c63
                        try clear c64
                        try clear p64
                        try clear c65
                        try clear c67
                        try clear c68
                        try clear c71
                        try clear c73
                        try clear c73b0
                        try clear c73b1
                        try clear c75
                        try clear c76
                        try clear c77
                        try clear c79
                        try clear c80
                        try clear c83
                        try clear c85
                        try clear c85b0
                        try clear c85b1
                        try clear c87
                        try clear c88
                        try clear c89
                        try clear c91
                        try clear c92
                        try clear c95
                        try clear c97
                        try clear c97b0
                        try clear c97b1
                        try clear c99
                        try clear c100
                        try clear c101
                        try clear c103
                        try clear c104
                        try clear c107
                        try clear c110
                        try clear c111
                        try clear c112
                        try clear c115
                        try clear c116
                        try clear c119
                        try clear c119b0
                        try clear c119b1
                        try clear c120
                        try clear c121
                        try clear c122
                        try clear c124
                        try clear c124b0
                        try clear c124b1
                        try clear c125
                        try clear c126
                        try clear c127
                        try clear c129
                        try clear c130
                        try clear c131
                        try clear c134
                        try clear c134b0
                        try clear c134b1
                        try clear c135
                        try clear c136
                        try clear c137
                        try clear c139
                        try clear c140
                        try clear hcz102_0
                        try clear hcz102_1
                        try clear hcz102_2
                        try clear hcz102_3
                        try clear hcz105_0
                        try clear hcz105_1
                        try clear hcz105_2
                        try clear hcz105_3
                        try clear hcz105_4
                        try clear hcz108_0
                        try clear hcz108_1
                        try clear hcz108_2
                        try clear hcz108_3
                        try clear hcz108_4
                        try clear hcz113_0
                        try clear hcz113_1
                        try clear hcz113_2
                        try clear hcz113_3
                        try clear hcz113_4
                        try clear hcz117_0
                        try clear hcz117_1
                        try clear hcz117_2
                        try clear hcz117_3
                        try clear hcz117_4
                        try clear hcz11_0
                        try clear hcz11_1
                        try clear hcz11_2
                        try clear hcz11_3
                        try clear hcz11_4
                        try clear hcz123_0
                        try clear hcz123_1
                        try clear hcz123_2
                        try clear hcz123_3
                        try clear hcz123_4
                        try clear hcz128_0
                        try clear hcz128_1
                        try clear hcz128_2
                        try clear hcz128_3
                        try clear hcz128_4
                        try clear hcz132_0
                        try clear hcz132_1
                        try clear hcz132_2
                        try clear hcz132_3
                        try clear hcz132_4
                        try clear hcz138_0
                        try clear hcz138_1
                        try clear hcz138_2
                        try clear hcz138_3
                        try clear hcz138_4
                        try clear hcz141_0
                        try clear hcz141_1
                        try clear hcz141_2
                        try clear hcz141_3
                        try clear hcz141_4
                        try clear hcz20_0
                        try clear hcz20_1
                        try clear hcz29_0
                        try clear hcz29_1
                        try clear hcz31_0
                        try clear hcz31_1
                        try clear hcz31_2
                        try clear hcz31_3
                        try clear hcz31_4
                        try clear hcz36_0
                        try clear hcz36_1
                        try clear hcz36_2
                        try clear hcz36_3
                        try clear hcz36_4
                        try clear hcz37_0
                        try clear hcz37_1
                        try clear hcz44_0
                        try clear hcz44_1
                        try clear hcz44_2
                        try clear hcz44_3
                        try clear hcz47_0
                        try clear hcz47_1
                        try clear hcz47_2
                        try clear hcz47_3
                        try clear hcz47_4
                        try clear hcz50_0
                        try clear hcz50_1
                        try clear hcz50_2
                        try clear hcz50_3
                        try clear hcz50_4
                        try clear hcz54_0
                        try clear hcz54_1
                        try clear hcz54_2
                        try clear hcz54_3
                        try clear hcz57_0
                        try clear hcz57_1
                        try clear hcz57_2
                        try clear hcz57_3
                        try clear hcz57_4
                        try clear hcz60_0
                        try clear hcz60_1
                        try clear hcz60_2
                        try clear hcz60_3
                        try clear hcz60_4
                        try clear hcz66_0
                        try clear hcz66_1
                        try clear hcz66_2
                        try clear hcz66_3
                        try clear hcz69_0
                        try clear hcz69_1
                        try clear hcz69_2
                        try clear hcz69_3
                        try clear hcz69_4
                        try clear hcz72_0
                        try clear hcz72_1
                        try clear hcz72_2
                        try clear hcz72_3
                        try clear hcz72_4
                        try clear hcz78_0
                        try clear hcz78_1
                        try clear hcz78_2
                        try clear hcz78_3
                        try clear hcz7_0
                        try clear hcz7_1
                        try clear hcz7_2
                        try clear hcz7_3
                        try clear hcz81_0
                        try clear hcz81_1
                        try clear hcz81_2
                        try clear hcz81_3
                        try clear hcz81_4
                        try clear hcz84_0
                        try clear hcz84_1
                        try clear hcz84_2
                        try clear hcz84_3
                        try clear hcz84_4
                        try clear hcz90_0
                        try clear hcz90_1
                        try clear hcz90_2
                        try clear hcz90_3
                        try clear hcz93_0
                        try clear hcz93_1
                        try clear hcz93_2
                        try clear hcz93_3
                        try clear hcz93_4
                        try clear hcz96_0
                        try clear hcz96_1
                        try clear hcz96_2
                        try clear hcz96_3
                        try clear hcz96_4
                        try clear hfz102_0
                        try clear hfz102_1
                        try clear hfz102_2
                        try clear hfz102_3
                        try clear hfz105_0
                        try clear hfz105_1
                        try clear hfz105_2
                        try clear hfz105_3
                        try clear hfz105_4
                        try clear hfz108_0
                        try clear hfz108_1
                        try clear hfz108_2
                        try clear hfz108_3
                        try clear hfz108_4
                        try clear hfz113_0
                        try clear hfz113_1
                        try clear hfz113_2
                        try clear hfz113_3
                        try clear hfz113_4
                        try clear hfz117_0
                        try clear hfz117_1
                        try clear hfz117_2
                        try clear hfz117_3
                        try clear hfz117_4
                        try clear hfz11_0
                        try clear hfz11_1
                        try clear hfz11_2
                        try clear hfz11_3
                        try clear hfz11_4
                        try clear hfz123_0
                        try clear hfz123_1
                        try clear hfz123_2
                        try clear hfz123_3
                        try clear hfz123_4
                        try clear hfz128_0
                        try clear hfz128_1
                        try clear hfz128_2
                        try clear hfz128_3
                        try clear hfz128_4
                        try clear hfz132_0
                        try clear hfz132_1
                        try clear hfz132_2
                        try clear hfz132_3
                        try clear hfz132_4
                        try clear hfz138_0
                        try clear hfz138_1
                        try clear hfz138_2
                        try clear hfz138_3
                        try clear hfz138_4
                        try clear hfz141_0
                        try clear hfz141_1
                        try clear hfz141_2
                        try clear hfz141_3
                        try clear hfz141_4
                        try clear hfz20_0
                        try clear hfz20_1
                        try clear hfz29_0
                        try clear hfz29_1
                        try clear hfz31_0
                        try clear hfz31_1
                        try clear hfz31_2
                        try clear hfz31_3
                        try clear hfz31_4
                        try clear hfz36_0
                        try clear hfz36_1
                        try clear hfz36_2
                        try clear hfz36_3
                        try clear hfz36_4
                        try clear hfz37_0
                        try clear hfz37_1
                        try clear hfz44_0
                        try clear hfz44_1
                        try clear hfz44_2
                        try clear hfz44_3
                        try clear hfz47_0
                        try clear hfz47_1
                        try clear hfz47_2
                        try clear hfz47_3
                        try clear hfz47_4
                        try clear hfz50_0
                        try clear hfz50_1
                        try clear hfz50_2
                        try clear hfz50_3
                        try clear hfz50_4
                        try clear hfz54_0
                        try clear hfz54_1
                        try clear hfz54_2
                        try clear hfz54_3
                        try clear hfz57_0
                        try clear hfz57_1
                        try clear hfz57_2
                        try clear hfz57_3
                        try clear hfz57_4
                        try clear hfz60_0
                        try clear hfz60_1
                        try clear hfz60_2
                        try clear hfz60_3
                        try clear hfz60_4
                        try clear hfz66_0
                        try clear hfz66_1
                        try clear hfz66_2
                        try clear hfz66_3
                        try clear hfz69_0
                        try clear hfz69_1
                        try clear hfz69_2
                        try clear hfz69_3
                        try clear hfz69_4
                        try clear hfz72_0
                        try clear hfz72_1
                        try clear hfz72_2
                        try clear hfz72_3
                        try clear hfz72_4
                        try clear hfz78_0
                        try clear hfz78_1
                        try clear hfz78_2
                        try clear hfz78_3
                        try clear hfz7_0
                        try clear hfz7_1
                        try clear hfz7_2
                        try clear hfz7_3
                        try clear hfz81_0
                        try clear hfz81_1
                        try clear hfz81_2
                        try clear hfz81_3
                        try clear hfz81_4
                        try clear hfz84_0
                        try clear hfz84_1
                        try clear hfz84_2
                        try clear hfz84_3
                        try clear hfz84_4
                        try clear hfz90_0
                        try clear hfz90_1
                        try clear hfz90_2
                        try clear hfz90_3
                        try clear hfz93_0
                        try clear hfz93_1
                        try clear hfz93_2
                        try clear hfz93_3
                        try clear hfz93_4
                        try clear hfz96_0
                        try clear hfz96_1
                        try clear hfz96_2
                        try clear hfz96_3
                        try clear hfz96_4
                        try clear hx344_0
                        try clear hx344_1
                        try clear p2
                        try clear p3
                        try clear p34
                        try clear p344
                        try clear p6
                        try clear p64
                        try clear q3
                        try clear q34
                        try clear q344
                        obtain ⟨kq, x348000_132, x348001_132, x348002_132, x348003_132, x348004_132, HA, HJ132, BK336, BK342, BK345, BK347, HB⟩ := hcut
                        cases kq with
                        | zero => exact absurd HA.out (by simp [penelopelaw18_TaskLasts.j3])
                        | succ kj132 =>
                          have H := HA.out
                          clear HA
                          simp only [penelopelaw18_TaskLasts.j3] at H
                          by_cases c142 : x12_117 = true
                          · subst c142
                            have H1 : (if (!(x348000_132 == x343000_1) || (!(x348001_132 == x343001_1) || (!(x348002_132 == x343002_1) || (!(x348003_132 == x343003_1) || (!(x348004_132.toList == x343004_1.toList)))))) = true then (none) else ((task_Right.f kj132 l0_0 ji4 a0_2 a0_3 x348000_132 x348001_132 x348002_132 x348003_132 x348004_132).bind fun t382 => (if t382 = true then ((peneloperef18_Right.f kj132 l0_0 ji4 a0_2 a0_3 x348000_132 x348001_132 x348002_132 x348003_132 x348004_132).bind fun t383 => (if t383 = true then (if x7_24 > ji4 then (none) else (if x348001_132 = x7_24 then (penelopelaw18_TaskLasts.l0 kj132 ji24 x7_24 l1 (l1.length : Int) (wrap64 (x22_1 + 1)) l0_0 ji4 a0_2 a0_3 x348000_132 x348001_132 x348002_132 x348003_132 x348004_132) else (none))) else (none))) else (none)))) = some r := by rw [if_pos rfl] at H; exact H
                            clear H
                            have H := H1
                            clear H1
                            by_cases c143 : (!(x348000_132 == x343000_1) || (!(x348001_132 == x343001_1) || (!(x348002_132 == x343002_1) || (!(x348003_132 == x343003_1) || (!(x348004_132.toList == x343004_1.toList)))))) = true
                            · rw [if_pos c143] at H
                              exact absurd H (by simp)
                            · rw [if_neg c143] at H
                              have c143b0 : (!(x348000_132 == x343000_1) || (!(x348001_132 == x343001_1) || (!(x348002_132 == x343002_1) || (!(x348003_132 == x343003_1) || (!(x348004_132.toList == x343004_1.toList)))))) = false := by simpa using c143
                              clear c143
                              replace H := Option.bind_eq_some_iff.mp H
                              obtain ⟨t382, A1440, H⟩ := H
                              replace H : (if t382 = true then ((peneloperef18_Right.f kj132 l0_0 ji4 a0_2 a0_3 x348000_132 x348001_132 x348002_132 x348003_132 x348004_132).bind fun t383 => (if t383 = true then (if x7_24 > ji4 then (none) else (if x348001_132 = x7_24 then (penelopelaw18_TaskLasts.l0 kj132 ji24 x7_24 l1 (l1.length : Int) (wrap64 (x22_1 + 1)) l0_0 ji4 a0_2 a0_3 x348000_132 x348001_132 x348002_132 x348003_132 x348004_132) else (none))) else (none))) else (none)) = some r := H
                              have A144 := Aside0.mk A1440
                              clear A1440
                              by_cases c145 : t382 = true
                              · subst c145
                                have H1 : ((peneloperef18_Right.f kj132 l0_0 ji4 a0_2 a0_3 x348000_132 x348001_132 x348002_132 x348003_132 x348004_132).bind fun t383 => (if t383 = true then (if x7_24 > ji4 then (none) else (if x348001_132 = x7_24 then (penelopelaw18_TaskLasts.l0 kj132 ji24 x7_24 l1 (l1.length : Int) (wrap64 (x22_1 + 1)) l0_0 ji4 a0_2 a0_3 x348000_132 x348001_132 x348002_132 x348003_132 x348004_132) else (none))) else (none))) = some r := by rw [if_pos rfl] at H; exact H
                                clear H
                                have H := H1
                                clear H1
                                replace H := Option.bind_eq_some_iff.mp H
                                obtain ⟨t383, A1460, H⟩ := H
                                replace H : (if t383 = true then (if x7_24 > ji4 then (none) else (if x348001_132 = x7_24 then (penelopelaw18_TaskLasts.l0 kj132 ji24 x7_24 l1 (l1.length : Int) (wrap64 (x22_1 + 1)) l0_0 ji4 a0_2 a0_3 x348000_132 x348001_132 x348002_132 x348003_132 x348004_132) else (none))) else (none)) = some r := H
                                have A146 := Aside0.mk A1460
                                clear A1460
                                by_cases c147 : t383 = true
                                · subst c147
                                  have H1 : (if x7_24 > ji4 then (none) else (if x348001_132 = x7_24 then (penelopelaw18_TaskLasts.l0 kj132 ji24 x7_24 l1 (l1.length : Int) (wrap64 (x22_1 + 1)) l0_0 ji4 a0_2 a0_3 x348000_132 x348001_132 x348002_132 x348003_132 x348004_132) else (none))) = some r := by rw [if_pos rfl] at H; exact H
                                  clear H
                                  have H := H1
                                  clear H1
                                  by_cases c148 : x7_24 > ji4
                                  · rw [if_pos c148] at H
                                    exact absurd H (by simp)
                                  · rw [if_neg c148] at H
                                    have c148b0 : decide (ji4 < x7_24) = false := decide_eq_false c148
                                    clear c148
                                    by_cases c149 : x348001_132 = x7_24
                                    · rw [if_pos c149] at H
                                      have c149b0 : (x348001_132 == x7_24) = true := beq_iff_eq.mpr c149
                                      have c149b1 : (x348001_132 != x7_24) = false := bne_eq_false_iff_eq.mpr c149
                                      clear c149
                                      have H' := Aside0.mk H
                                      clear H
                                      have hnb150 := NB347_336.out
                                      have hnc150 := NB336_347.out
                                      have hnb151 := NB347_342.out
                                      have hnc151 := NB342_347.out
                                      have hnb152 := NB347_345.out
                                      have hnc152 := NB345_347.out
                                      have hcz153_0 : wc.cell? ⟨gb347, 0, none⟩ = some (.int .i64 x348000_132) := (blk_cell BK347.out 0).trans rfl
                                      have hcz153_1 : wc.cell? ⟨gb347, 1, none⟩ = some (.int .i64 x348001_132) := (blk_cell BK347.out 1).trans rfl
                                      have hcz153_2 : wc.cell? ⟨gb347, 2, none⟩ = some (.int .i64 x348002_132) := (blk_cell BK347.out 2).trans rfl
                                      have hcz153_3 : wc.cell? ⟨gb347, 3, none⟩ = some (.int .i64 x348003_132) := (blk_cell BK347.out 3).trans rfl
                                      have hcz153_4 : wc.cell? ⟨gb347, 4, none⟩ = some (.string x348004_132) := (blk_cell BK347.out 4).trans rfl
                                      have hfz153_0 := blk_frozen BK347.out 0
                                      have hfz153_1 := blk_frozen BK347.out 1
                                      have hfz153_2 := blk_frozen BK347.out 2
                                      have hfz153_3 := blk_frozen BK347.out 3
                                      have hfz153_4 := blk_frozen BK347.out 4
                                      have hnb154 := NB342_336.out
                                      have hnc154 := NB336_342.out
                                      have hnb155 := NB342_345.out
                                      have hnc155 := NB345_342.out
                                      have hcz156_0 : wc.cell? ⟨gb342, 0, none⟩ = some (.int .i64 x343000_1) := (blk_cell BK342.out 0).trans rfl
                                      have hcz156_1 : wc.cell? ⟨gb342, 1, none⟩ = some (.int .i64 x343001_1) := (blk_cell BK342.out 1).trans rfl
                                      have hcz156_2 : wc.cell? ⟨gb342, 2, none⟩ = some (.int .i64 x343002_1) := (blk_cell BK342.out 2).trans rfl
                                      have hcz156_3 : wc.cell? ⟨gb342, 3, none⟩ = some (.int .i64 x343003_1) := (blk_cell BK342.out 3).trans rfl
                                      have hcz156_4 : wc.cell? ⟨gb342, 4, none⟩ = some (.string x343004_1) := (blk_cell BK342.out 4).trans rfl
                                      have hfz156_0 := blk_frozen BK342.out 0
                                      have hfz156_1 := blk_frozen BK342.out 1
                                      have hfz156_2 := blk_frozen BK342.out 2
                                      have hfz156_3 := blk_frozen BK342.out 3
                                      have hfz156_4 := blk_frozen BK342.out 4
                                      have hnb157 := NB336_345.out
                                      have hnc157 := NB345_336.out
                                      have hcz158_0 : wc.cell? ⟨gb336, 0, none⟩ = some (.slice A0_0 l0_0.length c0_0) := (blk_cell BK336.out 0).trans rfl
                                      have hcz158_1 : wc.cell? ⟨gb336, 1, none⟩ = some (.int .i64 ji4) := (blk_cell BK336.out 1).trans rfl
                                      have hcz158_2 : wc.cell? ⟨gb336, 2, none⟩ = some (.int .i64 a0_2) := (blk_cell BK336.out 2).trans rfl
                                      have hcz158_3 : wc.cell? ⟨gb336, 3, none⟩ = some (.int .i64 a0_3) := (blk_cell BK336.out 3).trans rfl
                                      have hfz158_0 := blk_frozen BK336.out 0
                                      have hfz158_1 := blk_frozen BK336.out 1
                                      have hfz158_2 := blk_frozen BK336.out 2
                                      have hfz158_3 := blk_frozen BK336.out 3
                                      go_wp2_with (first | (go_at_call 21; (with_reducible refine (task_Right.calls kj132 _ _ l0_0 ji4 a0_2 a0_3 x348000_132 x348001_132 x348002_132 x348003_132 x348004_132 true _ ?side1 ?side2 A144.out).mono ?_); (case side1 => repeat (first | exact (Kd.C_below HR0_0.out HB.out) | (with_reducible refine Kd.C_alloc ?_ _) | (with_reducible refine Kd.C_drewN ?_ _) | (with_reducible refine Kd.C_drew ?_))); (case side2 => exact HC0_0.out); rintro e w159 ⟨rfl, hb⟩; have n0_ := Aside0.mk (blk_below (g := gb336) (o := .cells #[.slice A0_0 l0_0.length c0_0, .int .i64 ji4, .int .i64 a0_2, .int .i64 a0_3] 24 (0, 0)) (by (with_reducible repeat (first | refine blk_drewN ?_ _ | refine blk_drew ?_ | refine blk_alloc ?_ _)); exact BK336.out) hb); have n1_ := Aside0.mk (blk_below (g := gb342) (o := .cells #[.int .i64 x343000_1, .int .i64 x343001_1, .int .i64 x343002_1, .int .i64 x343003_1, .string x343004_1] 26 (0, 0)) (by (with_reducible repeat (first | refine blk_drewN ?_ _ | refine blk_drew ?_ | refine blk_alloc ?_ _)); exact BK342.out) hb); have n2_ := Aside0.mk (blk_below (g := gb345) (o := .cells #[.int .i64 ((rd_T42 l1 x22_1).f0), .int .i64 ((rd_T42 l1 x22_1).f1)] 42 (0, 0)) (by (with_reducible repeat (first | refine blk_drewN ?_ _ | refine blk_drew ?_ | refine blk_alloc ?_ _)); exact BK345.out) hb); have n3_ := Aside0.mk (blk_below (g := gb347) (o := .cells #[.int .i64 x348000_132, .int .i64 x348001_132, .int .i64 x348002_132, .int .i64 x348003_132, .string x348004_132] 26 (0, 0)) (by (with_reducible repeat (first | refine blk_drewN ?_ _ | refine blk_drew ?_ | refine blk_alloc ?_ _)); exact BK347.out) hb); have n4_ := Aside0.mk (below_step (by repeat (first | (with_reducible first | exact HB.out | apply below_alloc | apply pw_below_drewN | apply below_drew1 | refine below_set ?_ GE336.out | refine below_set ?_ GE342.out | refine below_set ?_ GE345.out | refine below_set ?_ GE347.out) | exact HB.out)) hb); clear BK336; clear BK342; clear BK345; clear BK347; clear HB; have BK336 := n0_; have BK342 := n1_; have BK345 := n2_; have BK347 := n3_; have HB := n4_; clear n0_ n1_ n2_ n3_ n4_; (try clear hb); (try clear hb2); (try clear hk); (try clear hi); have hcz160_0 : w159.cell? ⟨gb336, 0, none⟩ = some (.slice A0_0 l0_0.length c0_0) := (blk_cell BK336.out 0).trans rfl; have hcz160_1 : w159.cell? ⟨gb336, 1, none⟩ = some (.int .i64 ji4) := (blk_cell BK336.out 1).trans rfl; have hcz160_2 : w159.cell? ⟨gb336, 2, none⟩ = some (.int .i64 a0_2) := (blk_cell BK336.out 2).trans rfl; have hcz160_3 : w159.cell? ⟨gb336, 3, none⟩ = some (.int .i64 a0_3) := (blk_cell BK336.out 3).trans rfl; have hfz160_0 := blk_frozen BK336.out 0; have hfz160_1 := blk_frozen BK336.out 1; have hfz160_2 := blk_frozen BK336.out 2; have hfz160_3 := blk_frozen BK336.out 3; have hcz161_0 : w159.cell? ⟨gb347, 0, none⟩ = some (.int .i64 x348000_132) := (blk_cell BK347.out 0).trans rfl; have hcz161_1 : w159.cell? ⟨gb347, 1, none⟩ = some (.int .i64 x348001_132) := (blk_cell BK347.out 1).trans rfl; have hcz161_2 : w159.cell? ⟨gb347, 2, none⟩ = some (.int .i64 x348002_132) := (blk_cell BK347.out 2).trans rfl; have hcz161_3 : w159.cell? ⟨gb347, 3, none⟩ = some (.int .i64 x348003_132) := (blk_cell BK347.out 3).trans rfl; have hcz161_4 : w159.cell? ⟨gb347, 4, none⟩ = some (.string x348004_132) := (blk_cell BK347.out 4).trans rfl; have hfz161_0 := blk_frozen BK347.out 0; have hfz161_1 := blk_frozen BK347.out 1; have hfz161_2 := blk_frozen BK347.out 2; have hfz161_3 := blk_frozen BK347.out 3; have hfz161_4 := blk_frozen BK347.out 4) | (go_at_call 13; (with_reducible refine (peneloperef18_Right.calls kj132 _ _ l0_0 ji4 a0_2 a0_3 x348000_132 x348001_132 x348002_132 x348003_132 x348004_132 true _ ?side1 ?side2 A146.out).mono ?_); (case side1 => repeat (first | exact (Kd.C_below HR0_0.out HB.out) | (with_reducible refine Kd.C_alloc ?_ _) | (with_reducible refine Kd.C_drewN ?_ _) | (with_reducible refine Kd.C_drew ?_))); (case side2 => exact HC0_0.out); rintro e w162 ⟨rfl, hb⟩; have n0_ := Aside0.mk (blk_below (g := gb336) (o := .cells #[.slice A0_0 l0_0.length c0_0, .int .i64 ji4, .int .i64 a0_2, .int .i64 a0_3] 24 (0, 0)) (by (with_reducible repeat (first | refine blk_drewN ?_ _ | refine blk_drew ?_ | refine blk_alloc ?_ _)); exact BK336.out) hb); have n1_ := Aside0.mk (blk_below (g := gb342) (o := .cells #[.int .i64 x343000_1, .int .i64 x343001_1, .int .i64 x343002_1, .int .i64 x343003_1, .string x343004_1] 26 (0, 0)) (by (with_reducible repeat (first | refine blk_drewN ?_ _ | refine blk_drew ?_ | refine blk_alloc ?_ _)); exact BK342.out) hb); have n2_ := Aside0.mk (blk_below (g := gb345) (o := .cells #[.int .i64 ((rd_T42 l1 x22_1).f0), .int .i64 ((rd_T42 l1 x22_1).f1)] 42 (0, 0)) (by (with_reducible repeat (first | refine blk_drewN ?_ _ | refine blk_drew ?_ | refine blk_alloc ?_ _)); exact BK345.out) hb); have n3_ := Aside0.mk (blk_below (g := gb347) (o := .cells #[.int .i64 x348000_132, .int .i64 x348001_132, .int .i64 x348002_132, .int .i64 x348003_132, .string x348004_132] 26 (0, 0)) (by (with_reducible repeat (first | refine blk_drewN ?_ _ | refine blk_drew ?_ | refine blk_alloc ?_ _)); exact BK347.out) hb); have n4_ := Aside0.mk (below_step (by repeat (first | (with_reducible first | exact HB.out | apply below_alloc | apply pw_below_drewN | apply below_drew1 | refine below_set ?_ GE336.out | refine below_set ?_ GE342.out | refine below_set ?_ GE345.out | refine below_set ?_ GE347.out) | exact HB.out)) hb); clear BK336; clear BK342; clear BK345; clear BK347; clear HB; have BK336 := n0_; have BK342 := n1_; have BK345 := n2_; have BK347 := n3_; have HB := n4_; clear n0_ n1_ n2_ n3_ n4_; (try clear hb); (try clear hb2); (try clear hk); (try clear hi); have hcz163_0 : w162.cell? ⟨gb336, 0, none⟩ = some (.slice A0_0 l0_0.length c0_0) := (blk_cell BK336.out 0).trans rfl; have hcz163_1 : w162.cell? ⟨gb336, 1, none⟩ = some (.int .i64 ji4) := (blk_cell BK336.out 1).trans rfl; have hcz163_2 : w162.cell? ⟨gb336, 2, none⟩ = some (.int .i64 a0_2) := (blk_cell BK336.out 2).trans rfl; have hcz163_3 : w162.cell? ⟨gb336, 3, none⟩ = some (.int .i64 a0_3) := (blk_cell BK336.out 3).trans rfl; have hfz163_0 := blk_frozen BK336.out 0; have hfz163_1 := blk_frozen BK336.out 1; have hfz163_2 := blk_frozen BK336.out 2; have hfz163_3 := blk_frozen BK336.out 3; have hcz164_0 : w162.cell? ⟨gb347, 0, none⟩ = some (.int .i64 x348000_132) := (blk_cell BK347.out 0).trans rfl; have hcz164_1 : w162.cell? ⟨gb347, 1, none⟩ = some (.int .i64 x348001_132) := (blk_cell BK347.out 1).trans rfl; have hcz164_2 : w162.cell? ⟨gb347, 2, none⟩ = some (.int .i64 x348002_132) := (blk_cell BK347.out 2).trans rfl; have hcz164_3 : w162.cell? ⟨gb347, 3, none⟩ = some (.int .i64 x348003_132) := (blk_cell BK347.out 3).trans rfl; have hcz164_4 : w162.cell? ⟨gb347, 4, none⟩ = some (.string x348004_132) := (blk_cell BK347.out 4).trans rfl; have hfz164_0 := blk_frozen BK347.out 0; have hfz164_1 := blk_frozen BK347.out 1; have hfz164_2 := blk_frozen BK347.out 2; have hfz164_3 := blk_frozen BK347.out 3; have hfz164_4 := blk_frozen BK347.out 4; have hcz165_0 : w162.cell? ⟨gb342, 0, none⟩ = some (.int .i64 x343000_1) := (blk_cell BK342.out 0).trans rfl; have hcz165_1 : w162.cell? ⟨gb342, 1, none⟩ = some (.int .i64 x343001_1) := (blk_cell BK342.out 1).trans rfl; have hcz165_2 : w162.cell? ⟨gb342, 2, none⟩ = some (.int .i64 x343002_1) := (blk_cell BK342.out 2).trans rfl; have hcz165_3 : w162.cell? ⟨gb342, 3, none⟩ = some (.int .i64 x343003_1) := (blk_cell BK342.out 3).trans rfl; have hcz165_4 : w162.cell? ⟨gb342, 4, none⟩ = some (.string x343004_1) := (blk_cell BK342.out 4).trans rfl; have hfz165_0 := blk_frozen BK342.out 0; have hfz165_1 := blk_frozen BK342.out 1; have hfz165_2 := blk_frozen BK342.out 2; have hfz165_3 := blk_frozen BK342.out 3; have hfz165_4 := blk_frozen BK342.out 4))
                                      go_roundg kj132
                                      case measure => have := HK1.out; have := HJ24.out; have := HJ117.out; have := HJ132.out; omega
                                      case rel => exact ⟨(ji24), (x7_24), (wrap64 (x22_1 + 1)), (x348000_132), (x348001_132), (x348002_132), (x348003_132), (x348004_132), (by first | rfl | (simp; done) | (simp only [← hji24] <;> (first | rfl | simp)) | (simp [*]; done)), (by first | rfl | (simp; done) | (simp [*]; done)), (by first | rfl | (simp; done) | (simp [*]; done)), H', ⟨by have := HK1.out; have := HJ24.out; have := HJ117.out; have := HJ132.out; omega⟩, ⟨by (with_reducible repeat (first | refine blk_drewN ?_ _ | refine blk_drew ?_ | refine blk_alloc ?_ _)); refine blk_far ?_ NB336_342.out _; (with_reducible repeat (first | refine blk_drewN ?_ _ | refine blk_drew ?_ | refine blk_alloc ?_ _)); refine blk_far ?_ NB336_342.out _; (with_reducible repeat (first | refine blk_drewN ?_ _ | refine blk_drew ?_ | refine blk_alloc ?_ _)); refine blk_far ?_ NB336_342.out _; (with_reducible repeat (first | refine blk_drewN ?_ _ | refine blk_drew ?_ | refine blk_alloc ?_ _)); refine blk_far ?_ NB336_342.out _; (with_reducible repeat (first | refine blk_drewN ?_ _ | refine blk_drew ?_ | refine blk_alloc ?_ _)); refine blk_far ?_ NB336_342.out _; (with_reducible repeat (first | refine blk_drewN ?_ _ | refine blk_drew ?_ | refine blk_alloc ?_ _)); exact BK336.out⟩, ⟨by (with_reducible repeat (first | refine blk_drewN ?_ _ | refine blk_drew ?_ | refine blk_alloc ?_ _)); refine blk_put (cs := #[.int .i64 x348000_132, .int .i64 x348001_132, .int .i64 x348002_132, .int .i64 x348003_132, .string x343004_1]) ?_ 4 _ rfl; (with_reducible repeat (first | refine blk_drewN ?_ _ | refine blk_drew ?_ | refine blk_alloc ?_ _)); refine blk_put (cs := #[.int .i64 x348000_132, .int .i64 x348001_132, .int .i64 x348002_132, .int .i64 x343003_1, .string x343004_1]) ?_ 3 _ rfl; (with_reducible repeat (first | refine blk_drewN ?_ _ | refine blk_drew ?_ | refine blk_alloc ?_ _)); refine blk_put (cs := #[.int .i64 x348000_132, .int .i64 x348001_132, .int .i64 x343002_1, .int .i64 x343003_1, .string x343004_1]) ?_ 2 _ rfl; (with_reducible repeat (first | refine blk_drewN ?_ _ | refine blk_drew ?_ | refine blk_alloc ?_ _)); refine blk_put (cs := #[.int .i64 x348000_132, .int .i64 x343001_1, .int .i64 x343002_1, .int .i64 x343003_1, .string x343004_1]) ?_ 1 _ rfl; (with_reducible repeat (first | refine blk_drewN ?_ _ | refine blk_drew ?_ | refine blk_alloc ?_ _)); refine blk_put (cs := #[.int .i64 x343000_1, .int .i64 x343001_1, .int .i64 x343002_1, .int .i64 x343003_1, .string x343004_1]) ?_ 0 _ rfl; (with_reducible repeat (first | refine blk_drewN ?_ _ | refine blk_drew ?_ | refine blk_alloc ?_ _)); exact BK342.out⟩, ⟨by repeat (first | (with_reducible first | exact HB.out | apply below_alloc | apply pw_below_drewN | apply below_drew1 | refine below_set ?_ GE336.out | refine below_set ?_ GE342.out | refine below_set ?_ GE345.out | refine below_set ?_ GE347.out) | exact HB.out)⟩⟩
                                    · rw [if_neg c149] at H
                                      exact absurd H (by simp)
                                · replace c147 := Bool.eq_false_iff.mpr c147
                                  subst c147
                                  have H1 : (none) = some r := by rw [if_neg (show ¬ (false = true) by decide)] at H; exact H
                                  clear H
                                  have H := H1
                                  clear H1
                                  exact absurd H (by simp)
                              · replace c145 := Bool.eq_false_iff.mpr c145
                                subst c145
                                have H1 : (none) = some r := by rw [if_neg (show ¬ (false = true) by decide)] at H; exact H
                                clear H
                                have H := H1
                                clear H1
                                exact absurd H (by simp)
                          · replace c142 := Bool.eq_false_iff.mpr c142
                            subst c142
                            have H1 : ((task_Right.f kj132 l0_0 ji4 a0_2 a0_3 x348000_132 x348001_132 x348002_132 x348003_132 x348004_132).bind fun t384 => (if t384 = true then ((peneloperef18_Right.f kj132 l0_0 ji4 a0_2 a0_3 x348000_132 x348001_132 x348002_132 x348003_132 x348004_132).bind fun t385 => (if t385 = true then (if x7_24 > ji4 then (none) else (if x348001_132 = x7_24 then (penelopelaw18_TaskLasts.l0 kj132 ji24 x7_24 l1 (l1.length : Int) (wrap64 (x22_1 + 1)) l0_0 ji4 a0_2 a0_3 x348000_132 x348001_132 x348002_132 x348003_132 x348004_132) else (none))) else (none))) else (none))) = some r := by rw [if_neg (show ¬ (false = true) by decide)] at H; exact H
                            clear H
                            have H := H1
                            clear H1
                            replace H := Option.bind_eq_some_iff.mp H
                            obtain ⟨t384, A1660, H⟩ := H
                            replace H : (if t384 = true then ((peneloperef18_Right.f kj132 l0_0 ji4 a0_2 a0_3 x348000_132 x348001_132 x348002_132 x348003_132 x348004_132).bind fun t385 => (if t385 = true then (if x7_24 > ji4 then (none) else (if x348001_132 = x7_24 then (penelopelaw18_TaskLasts.l0 kj132 ji24 x7_24 l1 (l1.length : Int) (wrap64 (x22_1 + 1)) l0_0 ji4 a0_2 a0_3 x348000_132 x348001_132 x348002_132 x348003_132 x348004_132) else (none))) else (none))) else (none)) = some r := H
                            have A166 := Aside0.mk A1660
                            clear A1660
                            by_cases c167 : t384 = true
                            · subst c167
                              have H1 : ((peneloperef18_Right.f kj132 l0_0 ji4 a0_2 a0_3 x348000_132 x348001_132 x348002_132 x348003_132 x348004_132).bind fun t385 => (if t385 = true then (if x7_24 > ji4 then (none) else (if x348001_132 = x7_24 then (penelopelaw18_TaskLasts.l0 kj132 ji24 x7_24 l1 (l1.length : Int) (wrap64 (x22_1 + 1)) l0_0 ji4 a0_2 a0_3 x348000_132 x348001_132 x348002_132 x348003_132 x348004_132) else (none))) else (none))) = some r := by rw [if_pos rfl] at H; exact H
                              clear H
                              have H := H1
                              clear H1
                              replace H := Option.bind_eq_some_iff.mp H
                              obtain ⟨t385, A1680, H⟩ := H
                              replace H : (if t385 = true then (if x7_24 > ji4 then (none) else (if x348001_132 = x7_24 then (penelopelaw18_TaskLasts.l0 kj132 ji24 x7_24 l1 (l1.length : Int) (wrap64 (x22_1 + 1)) l0_0 ji4 a0_2 a0_3 x348000_132 x348001_132 x348002_132 x348003_132 x348004_132) else (none))) else (none)) = some r := H
                              have A168 := Aside0.mk A1680
                              clear A1680
                              by_cases c169 : t385 = true
                              · subst c169
                                have H1 : (if x7_24 > ji4 then (none) else (if x348001_132 = x7_24 then (penelopelaw18_TaskLasts.l0 kj132 ji24 x7_24 l1 (l1.length : Int) (wrap64 (x22_1 + 1)) l0_0 ji4 a0_2 a0_3 x348000_132 x348001_132 x348002_132 x348003_132 x348004_132) else (none))) = some r := by rw [if_pos rfl] at H; exact H
                                clear H
                                have H := H1
                                clear H1
                                by_cases c170 : x7_24 > ji4
                                · rw [if_pos c170] at H
                                  exact absurd H (by simp)
                                · rw [if_neg c170] at H
                                  have c170b0 : decide (ji4 < x7_24) = false := decide_eq_false c170
                                  clear c170
                                  by_cases c171 : x348001_132 = x7_24
                                  · rw [if_pos c171] at H
                                    have c171b0 : (x348001_132 == x7_24) = true := beq_iff_eq.mpr c171
                                    have c171b1 : (x348001_132 != x7_24) = false := bne_eq_false_iff_eq.mpr c171
                                    clear c171
                                    have H' := Aside0.mk H
                                    clear H
                                    have hnb172 := NB336_342.out
                                    have hnc172 := NB342_336.out
                                    have hnb173 := NB336_345.out
                                    have hnc173 := NB345_336.out
                                    have hnb174 := NB336_347.out
                                    have hnc174 := NB347_336.out
                                    have hcz175_0 : wc.cell? ⟨gb336, 0, none⟩ = some (.slice A0_0 l0_0.length c0_0) := (blk_cell BK336.out 0).trans rfl
                                    have hcz175_1 : wc.cell? ⟨gb336, 1, none⟩ = some (.int .i64 ji4) := (blk_cell BK336.out 1).trans rfl
                                    have hcz175_2 : wc.cell? ⟨gb336, 2, none⟩ = some (.int .i64 a0_2) := (blk_cell BK336.out 2).trans rfl
                                    have hcz175_3 : wc.cell? ⟨gb336, 3, none⟩ = some (.int .i64 a0_3) := (blk_cell BK336.out 3).trans rfl
                                    have hfz175_0 := blk_frozen BK336.out 0
                                    have hfz175_1 := blk_frozen BK336.out 1
                                    have hfz175_2 := blk_frozen BK336.out 2
                                    have hfz175_3 := blk_frozen BK336.out 3
                                    have hnb176 := NB347_342.out
                                    have hnc176 := NB342_347.out
                                    have hnb177 := NB347_345.out
                                    have hnc177 := NB345_347.out
                                    have hcz178_0 : wc.cell? ⟨gb347, 0, none⟩ = some (.int .i64 x348000_132) := (blk_cell BK347.out 0).trans rfl
                                    have hcz178_1 : wc.cell? ⟨gb347, 1, none⟩ = some (.int .i64 x348001_132) := (blk_cell BK347.out 1).trans rfl
                                    have hcz178_2 : wc.cell? ⟨gb347, 2, none⟩ = some (.int .i64 x348002_132) := (blk_cell BK347.out 2).trans rfl
                                    have hcz178_3 : wc.cell? ⟨gb347, 3, none⟩ = some (.int .i64 x348003_132) := (blk_cell BK347.out 3).trans rfl
                                    have hcz178_4 : wc.cell? ⟨gb347, 4, none⟩ = some (.string x348004_132) := (blk_cell BK347.out 4).trans rfl
                                    have hfz178_0 := blk_frozen BK347.out 0
                                    have hfz178_1 := blk_frozen BK347.out 1
                                    have hfz178_2 := blk_frozen BK347.out 2
                                    have hfz178_3 := blk_frozen BK347.out 3
                                    have hfz178_4 := blk_frozen BK347.out 4
                                    go_wp2_with (first | (go_at_call 21; (with_reducible refine (task_Right.calls kj132 _ _ l0_0 ji4 a0_2 a0_3 x348000_132 x348001_132 x348002_132 x348003_132 x348004_132 true _ ?side1 ?side2 A166.out).mono ?_); (case side1 => repeat (first | exact (Kd.C_below HR0_0.out HB.out) | (with_reducible refine Kd.C_alloc ?_ _) | (with_reducible refine Kd.C_drewN ?_ _) | (with_reducible refine Kd.C_drew ?_))); (case side2 => exact HC0_0.out); rintro e w179 ⟨rfl, hb⟩; have n0_ := Aside0.mk (blk_below (g := gb336) (o := .cells #[.slice A0_0 l0_0.length c0_0, .int .i64 ji4, .int .i64 a0_2, .int .i64 a0_3] 24 (0, 0)) (by (with_reducible repeat (first | refine blk_drewN ?_ _ | refine blk_drew ?_ | refine blk_alloc ?_ _)); exact BK336.out) hb); have n1_ := Aside0.mk (blk_below (g := gb342) (o := .cells #[.int .i64 x343000_1, .int .i64 x343001_1, .int .i64 x343002_1, .int .i64 x343003_1, .string x343004_1] 26 (0, 0)) (by (with_reducible repeat (first | refine blk_drewN ?_ _ | refine blk_drew ?_ | refine blk_alloc ?_ _)); exact BK342.out) hb); have n2_ := Aside0.mk (blk_below (g := gb345) (o := .cells #[.int .i64 ((rd_T42 l1 x22_1).f0), .int .i64 ((rd_T42 l1 x22_1).f1)] 42 (0, 0)) (by (with_reducible repeat (first | refine blk_drewN ?_ _ | refine blk_drew ?_ | refine blk_alloc ?_ _)); exact BK345.out) hb); have n3_ := Aside0.mk (blk_below (g := gb347) (o := .cells #[.int .i64 x348000_132, .int .i64 x348001_132, .int .i64 x348002_132, .int .i64 x348003_132, .string x348004_132] 26 (0, 0)) (by (with_reducible repeat (first | refine blk_drewN ?_ _ | refine blk_drew ?_ | refine blk_alloc ?_ _)); exact BK347.out) hb); have n4_ := Aside0.mk (below_step (by repeat (first | (with_reducible first | exact HB.out | apply below_alloc | apply pw_below_drewN | apply below_drew1 | refine below_set ?_ GE336.out | refine below_set ?_ GE342.out | refine below_set ?_ GE345.out | refine below_set ?_ GE347.out) | exact HB.out)) hb); clear BK336; clear BK342; clear BK345; clear BK347; clear HB; have BK336 := n0_; have BK342 := n1_; have BK345 := n2_; have BK347 := n3_; have HB := n4_; clear n0_ n1_ n2_ n3_ n4_; (try clear hb); (try clear hb2); (try clear hk); (try clear hi); have hcz180_0 : w179.cell? ⟨gb336, 0, none⟩ = some (.slice A0_0 l0_0.length c0_0) := (blk_cell BK336.out 0).trans rfl; have hcz180_1 : w179.cell? ⟨gb336, 1, none⟩ = some (.int .i64 ji4) := (blk_cell BK336.out 1).trans rfl; have hcz180_2 : w179.cell? ⟨gb336, 2, none⟩ = some (.int .i64 a0_2) := (blk_cell BK336.out 2).trans rfl; have hcz180_3 : w179.cell? ⟨gb336, 3, none⟩ = some (.int .i64 a0_3) := (blk_cell BK336.out 3).trans rfl; have hfz180_0 := blk_frozen BK336.out 0; have hfz180_1 := blk_frozen BK336.out 1; have hfz180_2 := blk_frozen BK336.out 2; have hfz180_3 := blk_frozen BK336.out 3; have hcz181_0 : w179.cell? ⟨gb347, 0, none⟩ = some (.int .i64 x348000_132) := (blk_cell BK347.out 0).trans rfl; have hcz181_1 : w179.cell? ⟨gb347, 1, none⟩ = some (.int .i64 x348001_132) := (blk_cell BK347.out 1).trans rfl; have hcz181_2 : w179.cell? ⟨gb347, 2, none⟩ = some (.int .i64 x348002_132) := (blk_cell BK347.out 2).trans rfl; have hcz181_3 : w179.cell? ⟨gb347, 3, none⟩ = some (.int .i64 x348003_132) := (blk_cell BK347.out 3).trans rfl; have hcz181_4 : w179.cell? ⟨gb347, 4, none⟩ = some (.string x348004_132) := (blk_cell BK347.out 4).trans rfl; have hfz181_0 := blk_frozen BK347.out 0; have hfz181_1 := blk_frozen BK347.out 1; have hfz181_2 := blk_frozen BK347.out 2; have hfz181_3 := blk_frozen BK347.out 3; have hfz181_4 := blk_frozen BK347.out 4) | (go_at_call 13; (with_reducible refine (peneloperef18_Right.calls kj132 _ _ l0_0 ji4 a0_2 a0_3 x348000_132 x348001_132 x348002_132 x348003_132 x348004_132 true _ ?side1 ?side2 A168.out).mono ?_); (case side1 => repeat (first | exact (Kd.C_below HR0_0.out HB.out) | (with_reducible refine Kd.C_alloc ?_ _) | (with_reducible refine Kd.C_drewN ?_ _) | (with_reducible refine Kd.C_drew ?_))); (case side2 => exact HC0_0.out); rintro e w182 ⟨rfl, hb⟩; have n0_ := Aside0.mk (blk_below (g := gb336) (o := .cells #[.slice A0_0 l0_0.length c0_0, .int .i64 ji4, .int .i64 a0_2, .int .i64 a0_3] 24 (0, 0)) (by (with_reducible repeat (first | refine blk_drewN ?_ _ | refine blk_drew ?_ | refine blk_alloc ?_ _)); exact BK336.out) hb); have n1_ := Aside0.mk (blk_below (g := gb342) (o := .cells #[.int .i64 x343000_1, .int .i64 x343001_1, .int .i64 x343002_1, .int .i64 x343003_1, .string x343004_1] 26 (0, 0)) (by (with_reducible repeat (first | refine blk_drewN ?_ _ | refine blk_drew ?_ | refine blk_alloc ?_ _)); exact BK342.out) hb); have n2_ := Aside0.mk (blk_below (g := gb345) (o := .cells #[.int .i64 ((rd_T42 l1 x22_1).f0), .int .i64 ((rd_T42 l1 x22_1).f1)] 42 (0, 0)) (by (with_reducible repeat (first | refine blk_drewN ?_ _ | refine blk_drew ?_ | refine blk_alloc ?_ _)); exact BK345.out) hb); have n3_ := Aside0.mk (blk_below (g := gb347) (o := .cells #[.int .i64 x348000_132, .int .i64 x348001_132, .int .i64 x348002_132, .int .i64 x348003_132, .string x348004_132] 26 (0, 0)) (by (with_reducible repeat (first | refine blk_drewN ?_ _ | refine blk_drew ?_ | refine blk_alloc ?_ _)); exact BK347.out) hb); have n4_ := Aside0.mk (below_step (by repeat (first | (with_reducible first | exact HB.out | apply below_alloc | apply pw_below_drewN | apply below_drew1 | refine below_set ?_ GE336.out | refine below_set ?_ GE342.out | refine below_set ?_ GE345.out | refine below_set ?_ GE347.out) | exact HB.out)) hb); clear BK336; clear BK342; clear BK345; clear BK347; clear HB; have BK336 := n0_; have BK342 := n1_; have BK345 := n2_; have BK347 := n3_; have HB := n4_; clear n0_ n1_ n2_ n3_ n4_; (try clear hb); (try clear hb2); (try clear hk); (try clear hi); have hcz183_0 : w182.cell? ⟨gb336, 0, none⟩ = some (.slice A0_0 l0_0.length c0_0) := (blk_cell BK336.out 0).trans rfl; have hcz183_1 : w182.cell? ⟨gb336, 1, none⟩ = some (.int .i64 ji4) := (blk_cell BK336.out 1).trans rfl; have hcz183_2 : w182.cell? ⟨gb336, 2, none⟩ = some (.int .i64 a0_2) := (blk_cell BK336.out 2).trans rfl; have hcz183_3 : w182.cell? ⟨gb336, 3, none⟩ = some (.int .i64 a0_3) := (blk_cell BK336.out 3).trans rfl; have hfz183_0 := blk_frozen BK336.out 0; have hfz183_1 := blk_frozen BK336.out 1; have hfz183_2 := blk_frozen BK336.out 2; have hfz183_3 := blk_frozen BK336.out 3; have hcz184_0 : w182.cell? ⟨gb347, 0, none⟩ = some (.int .i64 x348000_132) := (blk_cell BK347.out 0).trans rfl; have hcz184_1 : w182.cell? ⟨gb347, 1, none⟩ = some (.int .i64 x348001_132) := (blk_cell BK347.out 1).trans rfl; have hcz184_2 : w182.cell? ⟨gb347, 2, none⟩ = some (.int .i64 x348002_132) := (blk_cell BK347.out 2).trans rfl; have hcz184_3 : w182.cell? ⟨gb347, 3, none⟩ = some (.int .i64 x348003_132) := (blk_cell BK347.out 3).trans rfl; have hcz184_4 : w182.cell? ⟨gb347, 4, none⟩ = some (.string x348004_132) := (blk_cell BK347.out 4).trans rfl; have hfz184_0 := blk_frozen BK347.out 0; have hfz184_1 := blk_frozen BK347.out 1; have hfz184_2 := blk_frozen BK347.out 2; have hfz184_3 := blk_frozen BK347.out 3; have hfz184_4 := blk_frozen BK347.out 4; have hnb185 := NB342_345.out; have hnc185 := NB345_342.out; have hcz186_0 : w182.cell? ⟨gb342, 0, none⟩ = some (.int .i64 x343000_1) := (blk_cell BK342.out 0).trans rfl; have hcz186_1 : w182.cell? ⟨gb342, 1, none⟩ = some (.int .i64 x343001_1) := (blk_cell BK342.out 1).trans rfl; have hcz186_2 : w182.cell? ⟨gb342, 2, none⟩ = some (.int .i64 x343002_1) := (blk_cell BK342.out 2).trans rfl; have hcz186_3 : w182.cell? ⟨gb342, 3, none⟩ = some (.int .i64 x343003_1) := (blk_cell BK342.out 3).trans rfl; have hcz186_4 : w182.cell? ⟨gb342, 4, none⟩ = some (.string x343004_1) := (blk_cell BK342.out 4).trans rfl; have hfz186_0 := blk_frozen BK342.out 0; have hfz186_1 := blk_frozen BK342.out 1; have hfz186_2 := blk_frozen BK342.out 2; have hfz186_3 := blk_frozen BK342.out 3; have hfz186_4 := blk_frozen BK342.out 4))
                                    go_roundg kj132
                                    case measure => have := HK1.out; have := HJ24.out; have := HJ117.out; have := HJ132.out; omega
                                    case rel => exact ⟨(ji24), (x7_24), (wrap64 (x22_1 + 1)), (x348000_132), (x348001_132), (x348002_132), (x348003_132), (x348004_132), (by first | rfl | (simp; done) | (simp only [← hji24] <;> (first | rfl | simp)) | (simp [*]; done)), (by first | rfl | (simp; done) | (simp [*]; done)), (by first | rfl | (simp; done) | (simp [*]; done)), H', ⟨by have := HK1.out; have := HJ24.out; have := HJ117.out; have := HJ132.out; omega⟩, ⟨by (with_reducible repeat (first | refine blk_drewN ?_ _ | refine blk_drew ?_ | refine blk_alloc ?_ _)); refine blk_far ?_ NB336_342.out _; (with_reducible repeat (first | refine blk_drewN ?_ _ | refine blk_drew ?_ | refine blk_alloc ?_ _)); refine blk_far ?_ NB336_342.out _; (with_reducible repeat (first | refine blk_drewN ?_ _ | refine blk_drew ?_ | refine blk_alloc ?_ _)); refine blk_far ?_ NB336_342.out _; (with_reducible repeat (first | refine blk_drewN ?_ _ | refine blk_drew ?_ | refine blk_alloc ?_ _)); refine blk_far ?_ NB336_342.out _; (with_reducible repeat (first | refine blk_drewN ?_ _ | refine blk_drew ?_ | refine blk_alloc ?_ _)); refine blk_far ?_ NB336_342.out _; (with_reducible repeat (first | refine blk_drewN ?_ _ | refine blk_drew ?_ | refine blk_alloc ?_ _)); exact BK336.out⟩, ⟨by (with_reducible repeat (first | refine blk_drewN ?_ _ | refine blk_drew ?_ | refine blk_alloc ?_ _)); refine blk_put (cs := #[.int .i64 x348000_132, .int .i64 x348001_132, .int .i64 x348002_132, .int .i64 x348003_132, .string x343004_1]) ?_ 4 _ rfl; (with_reducible repeat (first | refine blk_drewN ?_ _ | refine blk_drew ?_ | refine blk_alloc ?_ _)); refine blk_put (cs := #[.int .i64 x348000_132, .int .i64 x348001_132, .int .i64 x348002_132, .int .i64 x343003_1, .string x343004_1]) ?_ 3 _ rfl; (with_reducible repeat (first | refine blk_drewN ?_ _ | refine blk_drew ?_ | refine blk_alloc ?_ _)); refine blk_put (cs := #[.int .i64 x348000_132, .int .i64 x348001_132, .int .i64 x343002_1, .int .i64 x343003_1, .string x343004_1]) ?_ 2 _ rfl; (with_reducible repeat (first | refine blk_drewN ?_ _ | refine blk_drew ?_ | refine blk_alloc ?_ _)); refine blk_put (cs := #[.int .i64 x348000_132, .int .i64 x343001_1, .int .i64 x343002_1, .int .i64 x343003_1, .string x343004_1]) ?_ 1 _ rfl; (with_reducible repeat (first | refine blk_drewN ?_ _ | refine blk_drew ?_ | refine blk_alloc ?_ _)); refine blk_put (cs := #[.int .i64 x343000_1, .int .i64 x343001_1, .int .i64 x343002_1, .int .i64 x343003_1, .string x343004_1]) ?_ 0 _ rfl; (with_reducible repeat (first | refine blk_drewN ?_ _ | refine blk_drew ?_ | refine blk_alloc ?_ _)); exact BK342.out⟩, ⟨by repeat (first | (with_reducible first | exact HB.out | apply below_alloc | apply pw_below_drewN | apply below_drew1 | refine below_set ?_ GE336.out | refine below_set ?_ GE342.out | refine below_set ?_ GE345.out | refine below_set ?_ GE347.out) | exact HB.out)⟩⟩
                                  · rw [if_neg c171] at H
                                    exact absurd H (by simp)
                              · replace c169 := Bool.eq_false_iff.mpr c169
                                subst c169
                                have H1 : (none) = some r := by rw [if_neg (show ¬ (false = true) by decide)] at H; exact H
                                clear H
                                have H := H1
                                clear H1
                                exact absurd H (by simp)
                            · replace c167 := Bool.eq_false_iff.mpr c167
                              subst c167
                              have H1 : (none) = some r := by rw [if_neg (show ¬ (false = true) by decide)] at H; exact H
                              clear H
                              have H := H1
                              clear H1
                              exact absurd H (by simp)
          · rw [if_neg c14] at H
            exact absurd H (by simp)
        · rw [if_neg c13] at H
          exact absurd H (by simp)
      · rw [if_neg c12] at H
        have c12b0 : decide (x22_1 < (l1.length : Int)) = false := decide_eq_false c12
        clear c12
        replace H := Option.bind_eq_some_iff.mp H
        obtain ⟨t343, A1870, H⟩ := H
        replace H : (some t343) = some r := H
        have A187 := Aside0.mk A1870
        clear A1870
        obtain rfl := Option.some.inj H
        go_wp2_with (first | ((with_reducible refine gate_callee (f := 12) rfl ?_); refine goesL_ (some 136) rfl rfl Try.func12 (by kernel_rfl) rfl #[] rfl (by (try simp only [List.map_toArray, List.map_cons, List.map_nil]); first | done | rfl | (simp only [List.length_drop, List.length_take]; rfl)) ?_; (with_reducible refine (penelopelaw18_alive.calls  t343 _ A187.out).mono ?_); rintro e w188 ⟨rfl, hb⟩; refine ⟨_, rfl, ?_⟩; have n0_ := Aside0.mk (blk_below (g := gb336) (o := .cells #[.slice A0_0 l0_0.length c0_0, .int .i64 ji4, .int .i64 a0_2, .int .i64 a0_3] 24 (0, 0)) (by (with_reducible repeat (first | refine blk_drewN ?_ _ | refine blk_drew ?_ | refine blk_alloc ?_ _)); exact BK336.out) hb); have n1_ := Aside0.mk (blk_below (g := gb342) (o := .cells #[.int .i64 x343000_1, .int .i64 x343001_1, .int .i64 x343002_1, .int .i64 x343003_1, .string x343004_1] 26 (0, 0)) (by (with_reducible repeat (first | refine blk_drewN ?_ _ | refine blk_drew ?_ | refine blk_alloc ?_ _)); exact BK342.out) hb); have n2_ := Aside0.mk (below_step (by repeat (first | (with_reducible first | exact HB.out | apply below_alloc | apply pw_below_drewN | apply below_drew1 | refine below_set ?_ GE336.out | refine below_set ?_ GE342.out) | exact HB.out)) hb); clear BK336; clear BK342; clear HB; have BK336 := n0_; have BK342 := n1_; have HB := n2_; clear n0_ n1_ n2_; (try clear hb); (try clear hb2); (try clear hk); (try clear hi)))
        go_ret
        exact ⟨by first | rfl | (simp [errW_none, errW_some] <;> rfl) | (simp only [← hji3, ← hji4]; first | rfl | (simp [errW_none, errW_some] <;> rfl)) | (simp [*, errW_none, errW_some] <;> rfl), by repeat (first | (with_reducible first | exact HB.out | apply below_alloc | apply pw_below_drewN | apply below_drew1 | refine below_set ?_ GE336.out | refine below_set ?_ GE342.out) | exact HB.out)⟩

end Go.Proofs.Ytmbpnggldpgcdaa.X
