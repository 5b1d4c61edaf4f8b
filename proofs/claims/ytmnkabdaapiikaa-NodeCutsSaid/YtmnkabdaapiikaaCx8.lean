-- laid by a program of this session (wip/tools/xprint.py), function by function; Lean checks it
import Derived.Test.YtmnkabdaapiikaaCx0
import Derived.Test.YtmnkabdaapiikaaXCutsV
import Derived.Test.YtmnkabdaapiikaaCx1
import Derived.Test.YtmnkabdaapiikaaCx2
import Derived.Test.YtmnkabdaapiikaaCx3
import Derived.Test.YtmnkabdaapiikaaCx4
import Derived.Test.YtmnkabdaapiikaaCx6
import Derived.Test.YtmnkabdaapiikaaCx7
import Derived.Test.YtmnkabdaapiikaaSq
namespace Go.Proofs.Ytmnkabdaapiikaa.C
open Go.RowKit Go.Proofs.YtmnkabdaapiikaaW.PrintWords Go.Proofs.YtmnkabdaapiikaaW.PrintLast Go.Proofs.YtmnkabdaapiikaaW.PrintMore Go.Proofs.YtmnkabdaapiikaaW.Sq
attribute [local go_sem] max2_int min2_int max_two min_two max_three min_three max_four min_four   -- for this text's walks alone
set_option linter.unusedVariables false
set_option linter.unusedSimpArgs false

/-! ### penelopelaw07_NodeCuts: function 6 -/
mutual
def penelopelaw07_NodeCuts.j0 : Nat → Bool → Bool → List ByteArray → List ByteArray → List Int → Option (Bool)
 | 0, _, _, _, _, _ => none
 | k + 1, x48, x208000, x208001, x208002, x208003 => if x48 = true then (none) else ((node_Cut.f k x208000 x208001 x208002 x208003).bind fun bt255 => ((peneloperef07_Stands.f k x208000 x208001 x208002 x208003).bind fun t279 => (if t279 = true then (penelopelaw07_NodeCuts.j1 k bt255.2.2.2.2.1 bt255.2.2.2.2.2.2.2.2.2 ((x208001.length : Int) != 9) x208000 x208001 x208002 x208003 bt255.1 bt255.2.1 bt255.2.2.1 bt255.2.2.2.1 bt255.2.2.2.2.2.1 bt255.2.2.2.2.2.2.1 bt255.2.2.2.2.2.2.2.1 bt255.2.2.2.2.2.2.2.2.1) else (penelopelaw07_NodeCuts.j1 k bt255.2.2.2.2.1 bt255.2.2.2.2.2.2.2.2.2 true x208000 x208001 x208002 x208003 bt255.1 bt255.2.1 bt255.2.2.1 bt255.2.2.2.1 bt255.2.2.2.2.2.1 bt255.2.2.2.2.2.2.1 bt255.2.2.2.2.2.2.2.1 bt255.2.2.2.2.2.2.2.2.1))))
def penelopelaw07_NodeCuts.j1 : Nat → ByteArray → Int → Bool → Bool → List ByteArray → List ByteArray → List Int → Bool → List ByteArray → List ByteArray → List Int → Bool → List ByteArray → List ByteArray → List Int → Option (Bool)
 | 0, _, _, _, _, _, _, _, _, _, _, _, _, _, _, _ => none
 | k + 1, x12, x14, x64, x208000, x208001, x208002, x208003, x278000, x278001, x278002, x278003, x279000, x279001, x279002, x279003 => if x64 = true then (if x14 = 1 then (if x12.toList = ([] : List UInt8) then ((peneloperef07_Like.f k x278000 x278001 x278002 x278003 false ([] : List ByteArray) ([] : List ByteArray) ([] : List Int)).bind fun t280 => (if t280 = true then ((peneloperef07_Like.f k x279000 x279001 x279002 x279003 false ([] : List ByteArray) ([] : List ByteArray) ([] : List Int)).bind fun t281 => (some t281)) else (none))) else (none)) else (none)) else ((peneloperef07_Cut.f k x208000 x208001 x208002 x208003).bind fun bt282 => (if x14 = 0 then (if x12.toList = bt282.2.2.2.2.1.toList then ((peneloperef07_Like.f k x278000 x278001 x278002 x278003 bt282.1 bt282.2.1 bt282.2.2.1 bt282.2.2.2.1).bind fun t305 => (if t305 = true then ((peneloperef07_Like.f k x279000 x279001 x279002 x279003 bt282.2.2.2.2.2.1 bt282.2.2.2.2.2.2.1 bt282.2.2.2.2.2.2.2.1 bt282.2.2.2.2.2.2.2.2).bind fun t306 => (some t306)) else (none))) else (none)) else (none)))
end
def penelopelaw07_NodeCuts.f (k : Nat) (a0_0 : Bool) (l0_1 : List ByteArray) (l0_2 : List ByteArray) (l0_3 : List Int) (a1 : ByteArray) (a2_0 : Bool) (l2_1 : List ByteArray) (l2_2 : List ByteArray) (l2_3 : List Int) : Option (Bool) := (penelopelaw07_few.f a0_0 l0_1 l0_2 l0_3).bind fun bt209 => ((penelopelaw07_few.f a2_0 l2_1 l2_2 l2_3).bind fun bt219 => ((node_Join.f k bt209.1 bt209.2.1 bt209.2.2.1 bt209.2.2.2 a1 bt219.1 bt219.2.1 bt219.2.2.1 bt219.2.2.2).bind fun bt229 => ((peneloperef07_Join.f k bt209.1 bt209.2.1 bt209.2.2.1 bt209.2.2.2 a1 bt219.1 bt219.2.1 bt219.2.2.1 bt219.2.2.2).bind fun bt241 => (if bt229.2.2.2.2 = bt241.2.2.2.2 then ((peneloperef07_Like.f k bt229.1 bt229.2.1 bt229.2.2.1 bt229.2.2.2.1 bt241.1 bt241.2.1 bt241.2.2.1 bt241.2.2.2.1).bind fun t253 => (if t253 = true then ((penelopelaw07_alive.f k).bind fun t254 => (penelopelaw07_NodeCuts.j0 k (!t254) bt209.1 bt209.2.1 bt209.2.2.1 bt209.2.2.2)) else (penelopelaw07_NodeCuts.j0 k true bt209.1 bt209.2.1 bt209.2.2.1 bt209.2.2.2))) else (penelopelaw07_NodeCuts.j0 k true bt209.1 bt209.2.1 bt209.2.2.1 bt209.2.2.2)))))
theorem penelopelaw07_NodeCuts.mono_l : ∀ k, (∀ y0 y1 y2 y3 y4, LeO (penelopelaw07_NodeCuts.j0 k y0 y1 y2 y3 y4) (penelopelaw07_NodeCuts.j0 (k + 1) y0 y1 y2 y3 y4)) ∧ (∀ y0 y1 y2 y3 y4 y5 y6 y7 y8 y9 y10 y11 y12 y13 y14, LeO (penelopelaw07_NodeCuts.j1 k y0 y1 y2 y3 y4 y5 y6 y7 y8 y9 y10 y11 y12 y13 y14) (penelopelaw07_NodeCuts.j1 (k + 1) y0 y1 y2 y3 y4 y5 y6 y7 y8 y9 y10 y11 y12 y13 y14))
 | 0 => ⟨fun _ _ _ _ _ r h => by simp [penelopelaw07_NodeCuts.j0] at h, fun _ _ _ _ _ _ _ _ _ _ _ _ _ _ _ r h => by simp [penelopelaw07_NodeCuts.j1] at h⟩
 | k + 1 => by
  obtain ⟨ih0, ih1⟩ := penelopelaw07_NodeCuts.mono_l k
  refine ⟨?_, ?_⟩
  ·
   intro y0 y1 y2 y3 y4
   unfold penelopelaw07_NodeCuts.j0
   repeat' first
   | (with_reducible exact ih0 _ _ _ _ _)
   | (with_reducible exact ih1 _ _ _ _ _ _ _ _ _ _ _ _ _ _ _)
   | (with_reducible exact node_Cut.mono _ _ _ _ _)
   | (with_reducible exact node_Join.mono _ _ _ _ _ _ _ _ _ _)
   | (with_reducible exact penelopelaw07_alive.mono _)
   | (with_reducible exact peneloperef07_Cut.mono _ _ _ _ _)
   | (with_reducible exact peneloperef07_Join.mono _ _ _ _ _ _ _ _ _ _)
   | (with_reducible exact peneloperef07_Like.mono _ _ _ _ _ _ _ _ _)
   | (with_reducible exact peneloperef07_Stands.mono _ _ _ _ _)
   | (with_reducible exact LeO.refl _)
   | (with_reducible exact LeO.none _)
   | (with_reducible refine LeO.ite ?_ ?_)
   | (with_reducible refine LeO.bind ?_ (fun _ => ?_))
   | exact ih0 _ _ _ _ _
   | exact ih1 _ _ _ _ _ _ _ _ _ _ _ _ _ _ _
   | exact node_Cut.mono _ _ _ _ _
   | exact node_Join.mono _ _ _ _ _ _ _ _ _ _
   | exact penelopelaw07_alive.mono _
   | exact peneloperef07_Cut.mono _ _ _ _ _
   | exact peneloperef07_Join.mono _ _ _ _ _ _ _ _ _ _
   | exact peneloperef07_Like.mono _ _ _ _ _ _ _ _ _
   | exact peneloperef07_Stands.mono _ _ _ _ _
   | exact LeO.none _
   | refine LeO.ite ?_ ?_
   | refine LeO.bind ?_ (fun _ => ?_)
  ·
   intro y0 y1 y2 y3 y4 y5 y6 y7 y8 y9 y10 y11 y12 y13 y14
   unfold penelopelaw07_NodeCuts.j1
   repeat' first
   | (with_reducible exact ih0 _ _ _ _ _)
   | (with_reducible exact ih1 _ _ _ _ _ _ _ _ _ _ _ _ _ _ _)
   | (with_reducible exact node_Cut.mono _ _ _ _ _)
   | (with_reducible exact node_Join.mono _ _ _ _ _ _ _ _ _ _)
   | (with_reducible exact penelopelaw07_alive.mono _)
   | (with_reducible exact peneloperef07_Cut.mono _ _ _ _ _)
   | (with_reducible exact peneloperef07_Join.mono _ _ _ _ _ _ _ _ _ _)
   | (with_reducible exact peneloperef07_Like.mono _ _ _ _ _ _ _ _ _)
   | (with_reducible exact peneloperef07_Stands.mono _ _ _ _ _)
   | (with_reducible exact LeO.refl _)
   | (with_reducible exact LeO.none _)
   | (with_reducible refine LeO.ite ?_ ?_)
   | (with_reducible refine LeO.bind ?_ (fun _ => ?_))
   | exact ih0 _ _ _ _ _
   | exact ih1 _ _ _ _ _ _ _ _ _ _ _ _ _ _ _
   | exact node_Cut.mono _ _ _ _ _
   | exact node_Join.mono _ _ _ _ _ _ _ _ _ _
   | exact penelopelaw07_alive.mono _
   | exact peneloperef07_Cut.mono _ _ _ _ _
   | exact peneloperef07_Join.mono _ _ _ _ _ _ _ _ _ _
   | exact peneloperef07_Like.mono _ _ _ _ _ _ _ _ _
   | exact peneloperef07_Stands.mono _ _ _ _ _
   | exact LeO.none _
   | refine LeO.ite ?_ ?_
   | refine LeO.bind ?_ (fun _ => ?_)
theorem penelopelaw07_NodeCuts.mono : ∀ a0 a1 a2 a3 a4 a5 a6 a7 a8 k, LeO (penelopelaw07_NodeCuts.f k a0 a1 a2 a3 a4 a5 a6 a7 a8) (penelopelaw07_NodeCuts.f (k + 1) a0 a1 a2 a3 a4 a5 a6 a7 a8) := by
 intro a0 a1 a2 a3 a4 a5 a6 a7 a8 k
 obtain ⟨ih0, ih1⟩ := penelopelaw07_NodeCuts.mono_l k
 unfold penelopelaw07_NodeCuts.f
 repeat' first
   | (with_reducible exact ih0 _ _ _ _ _)
   | (with_reducible exact ih1 _ _ _ _ _ _ _ _ _ _ _ _ _ _ _)
   | (with_reducible exact node_Cut.mono _ _ _ _ _)
   | (with_reducible exact node_Join.mono _ _ _ _ _ _ _ _ _ _)
   | (with_reducible exact penelopelaw07_alive.mono _)
   | (with_reducible exact peneloperef07_Cut.mono _ _ _ _ _)
   | (with_reducible exact peneloperef07_Join.mono _ _ _ _ _ _ _ _ _ _)
   | (with_reducible exact peneloperef07_Like.mono _ _ _ _ _ _ _ _ _)
   | (with_reducible exact peneloperef07_Stands.mono _ _ _ _ _)
   | (with_reducible exact LeO.refl _)
   | (with_reducible exact LeO.none _)
   | (with_reducible refine LeO.ite ?_ ?_)
   | (with_reducible refine LeO.bind ?_ (fun _ => ?_))
   | exact ih0 _ _ _ _ _
   | exact ih1 _ _ _ _ _ _ _ _ _ _ _ _ _ _ _
   | exact node_Cut.mono _ _ _ _ _
   | exact node_Join.mono _ _ _ _ _ _ _ _ _ _
   | exact penelopelaw07_alive.mono _
   | exact peneloperef07_Cut.mono _ _ _ _ _
   | exact peneloperef07_Join.mono _ _ _ _ _ _ _ _ _ _
   | exact peneloperef07_Like.mono _ _ _ _ _ _ _ _ _
   | exact peneloperef07_Stands.mono _ _ _ _ _
   | exact LeO.none _
   | refine LeO.ite ?_ ?_
   | refine LeO.bind ?_ (fun _ => ?_)
set_option maxHeartbeats 8000000 in
set_option maxRecDepth 100000 in
theorem penelopelaw07_NodeCuts.calls (k : Nat) (a0_0 : Bool) (A0_1 : Option Addr) (c0_1 : Nat) (l0_1 : List ByteArray) (A0_2 : Option Addr) (c0_2 : Nat) (l0_2 : List ByteArray) (A0_3 : Option Addr) (c0_3 : Nat) (l0_3 : List Int) (a1 : ByteArray) (a2_0 : Bool) (A2_1 : Option Addr) (c2_1 : Nat) (l2_1 : List ByteArray) (A2_2 : Option Addr) (c2_2 : Nat) (l2_2 : List ByteArray) (A2_3 : Option Addr) (c2_3 : Nat) (l2_3 : List Int) (r : Bool) (w : World) (hr0_1 : Kd.C Kd.string w A0_1 l0_1.length l0_1) (hc0_1 : l0_1.length ≤ c0_1) (hr0_2 : Kd.C Kd.string w A0_2 l0_2.length l0_2) (hc0_2 : l0_2.length ≤ c0_2) (hr0_3 : Kd.C (Kd.int .i64) w A0_3 l0_3.length l0_3) (hc0_3 : l0_3.length ≤ c0_3) (hr2_1 : Kd.C Kd.string w A2_1 l2_1.length l2_1) (hc2_1 : l2_1.length ≤ c2_1) (hr2_2 : Kd.C Kd.string w A2_2 l2_2.length l2_2) (hc2_2 : l2_2.length ≤ c2_2) (hr2_3 : Kd.C (Kd.int .i64) w A2_3 l2_3.length l2_3) (hc2_3 : l2_3.length ≤ c2_3) (h : penelopelaw07_NodeCuts.f k a0_0 l0_1 l0_2 l0_3 a1 a2_0 l2_1 l2_2 l2_3 = some r) :
  Calls Try.prog 6 #[.agg #[.bool a0_0, .slice A0_1 l0_1.length c0_1, .slice A0_2 l0_2.length c0_2, .slice A0_3 l0_3.length c0_3], .string a1, .agg #[.bool a2_0, .slice A2_1 l2_1.length c2_1, .slice A2_2 l2_2.length c2_2, .slice A2_3 l2_3.length c2_3]] w fun e w' => e = .returned (.bool r) ∧ Below w.heap.size w w' := by
 have hu25 := Try.underlying25
 have HR0_1 := am hr0_1
 have HC0_1 := am hc0_1
 clear hr0_1 hc0_1
 have HR0_2 := am hr0_2
 have HC0_2 := am hc0_2
 clear hr0_2 hc0_2
 have HR0_3 := am hr0_3
 have HC0_3 := am hc0_3
 clear hr0_3 hc0_3
 have HR2_1 := am hr2_1
 have HC2_1 := am hc2_1
 clear hr2_1 hc2_1
 have HR2_2 := am hr2_2
 have HC2_2 := am hc2_2
 clear hr2_2 hc2_2
 have HR2_3 := am hr2_3
 have HC2_3 := am hc2_3
 clear hr2_3 hc2_3
 have HB := am (Below.refl w.heap.size w)
 have H : ((penelopelaw07_few.f a0_0 l0_1 l0_2 l0_3).bind fun bt209 => ((penelopelaw07_few.f a2_0 l2_1 l2_2 l2_3).bind fun bt219 => ((node_Join.f k bt209.1 bt209.2.1 bt209.2.2.1 bt209.2.2.2 a1 bt219.1 bt219.2.1 bt219.2.2.1 bt219.2.2.2).bind fun bt229 => ((peneloperef07_Join.f k bt209.1 bt209.2.1 bt209.2.2.1 bt209.2.2.2 a1 bt219.1 bt219.2.1 bt219.2.2.1 bt219.2.2.2).bind fun bt241 => (if bt229.2.2.2.2 = bt241.2.2.2.2 then ((peneloperef07_Like.f k bt229.1 bt229.2.1 bt229.2.2.1 bt229.2.2.2.1 bt241.1 bt241.2.1 bt241.2.2.1 bt241.2.2.2.1).bind fun t253 => (if t253 = true then ((penelopelaw07_alive.f k).bind fun t254 => (penelopelaw07_NodeCuts.j0 k (!t254) bt209.1 bt209.2.1 bt209.2.2.1 bt209.2.2.2)) else (penelopelaw07_NodeCuts.j0 k true bt209.1 bt209.2.1 bt209.2.2.1 bt209.2.2.2))) else (penelopelaw07_NodeCuts.j0 k true bt209.1 bt209.2.1 bt209.2.2.1 bt209.2.2.2)))))) = some r := h
 clear h
 replace H := Option.bind_eq_some_iff.mp H
 obtain ⟨⟨t209, t210, t213, t216⟩, A40, H⟩ := H
 replace H : ((penelopelaw07_few.f a2_0 l2_1 l2_2 l2_3).bind fun bt219 => ((node_Join.f k t209 t210 t213 t216 a1 bt219.1 bt219.2.1 bt219.2.2.1 bt219.2.2.2).bind fun bt229 => ((peneloperef07_Join.f k t209 t210 t213 t216 a1 bt219.1 bt219.2.1 bt219.2.2.1 bt219.2.2.2).bind fun bt241 => (if bt229.2.2.2.2 = bt241.2.2.2.2 then ((peneloperef07_Like.f k bt229.1 bt229.2.1 bt229.2.2.1 bt229.2.2.2.1 bt241.1 bt241.2.1 bt241.2.2.1 bt241.2.2.2.1).bind fun t253 => (if t253 = true then ((penelopelaw07_alive.f k).bind fun t254 => (penelopelaw07_NodeCuts.j0 k (!t254) t209 t210 t213 t216)) else (penelopelaw07_NodeCuts.j0 k true t209 t210 t213 t216))) else (penelopelaw07_NodeCuts.j0 k true t209 t210 t213 t216))))) = some r := H
 have A4 := am A40
 clear A40
 replace H := Option.bind_eq_some_iff.mp H
 obtain ⟨⟨t219, t220, t223, t226⟩, A50, H⟩ := H
 replace H : ((node_Join.f k t209 t210 t213 t216 a1 t219 t220 t223 t226).bind fun bt229 => ((peneloperef07_Join.f k t209 t210 t213 t216 a1 t219 t220 t223 t226).bind fun bt241 => (if bt229.2.2.2.2 = bt241.2.2.2.2 then ((peneloperef07_Like.f k bt229.1 bt229.2.1 bt229.2.2.1 bt229.2.2.2.1 bt241.1 bt241.2.1 bt241.2.2.1 bt241.2.2.2.1).bind fun t253 => (if t253 = true then ((penelopelaw07_alive.f k).bind fun t254 => (penelopelaw07_NodeCuts.j0 k (!t254) t209 t210 t213 t216)) else (penelopelaw07_NodeCuts.j0 k true t209 t210 t213 t216))) else (penelopelaw07_NodeCuts.j0 k true t209 t210 t213 t216)))) = some r := H
 have A5 := am A50
 clear A50
 replace H := Option.bind_eq_some_iff.mp H
 obtain ⟨⟨t229, t230, t233, t236, t239⟩, A60, H⟩ := H
 replace H : ((peneloperef07_Join.f k t209 t210 t213 t216 a1 t219 t220 t223 t226).bind fun bt241 => (if t239 = bt241.2.2.2.2 then ((peneloperef07_Like.f k t229 t230 t233 t236 bt241.1 bt241.2.1 bt241.2.2.1 bt241.2.2.2.1).bind fun t253 => (if t253 = true then ((penelopelaw07_alive.f k).bind fun t254 => (penelopelaw07_NodeCuts.j0 k (!t254) t209 t210 t213 t216)) else (penelopelaw07_NodeCuts.j0 k true t209 t210 t213 t216))) else (penelopelaw07_NodeCuts.j0 k true t209 t210 t213 t216))) = some r := H
 have A6 := am A60
 clear A60
 replace H := Option.bind_eq_some_iff.mp H
 obtain ⟨⟨t241, t242, t245, t248, t251⟩, A70, H⟩ := H
 replace H : (if t239 = t251 then ((peneloperef07_Like.f k t229 t230 t233 t236 t241 t242 t245 t248).bind fun t253 => (if t253 = true then ((penelopelaw07_alive.f k).bind fun t254 => (penelopelaw07_NodeCuts.j0 k (!t254) t209 t210 t213 t216)) else (penelopelaw07_NodeCuts.j0 k true t209 t210 t213 t216))) else (penelopelaw07_NodeCuts.j0 k true t209 t210 t213 t216)) = some r := H
 have A7 := am A70
 clear A70
 have HC8 := am H
 clear H
 go_enter Try.func6, Try.ntmps6
 try go_wp2_with (first | ((with_reducible refine gate_dst (N := 3) rfl ?_); (try (refine gate_guard (by rfl) ?_; dsimp only)); refine bx 3 #[.bool a0_0, .slice A0_1 l0_1.length c0_1, .slice A0_2 l0_2.length c0_2, .slice A0_3 l0_3.length c0_3] 25 ?_; intro gb207 hg w9 hbox hb; have BK207 := am (hbox); have GW207 := am (gs hg (pB HB.out)); have GE207 := am (gs hg (pB HB.out)); replace HB := am (below_step (pB HB.out) hb); clear hb hbox hg) | ((with_reducible refine gate_dst (N := 5) rfl ?_); (try (refine gate_guard (by rfl) ?_; dsimp only)); refine bx 5 #[.bool a2_0, .slice A2_1 l2_1.length c2_1, .slice A2_2 l2_2.length c2_2, .slice A2_3 l2_3.length c2_3] 25 ?_; intro gb208 hg w10 hbox hb; have BK208 := am (hbox); have GW208 := am (gs hg (pB HB.out)); have GE208 := am (gs hg (pB HB.out)); replace HB := am (below_step (pB HB.out) hb); have NB207_208 := am (nl hg (pk BK207.out)); have NB208_207 := am (ng hg (pk BK207.out)); replace BK207 := am (blk_below (pk BK207.out) hb); clear hb hbox hg))
 replace BK207 := am (blk_drew BK207.out)
 replace BK208 := am (blk_drew BK208.out)
 replace HB := am (below_drew1 HB.out)
 refine start_ (n := 6) (S := fun w' => w'.cell? ⟨gb207, 0, none⟩ = some (.bool a0_0) ∧ w'.cell? ⟨gb207, 1, none⟩ = some (.slice A0_1 l0_1.length c0_1) ∧ w'.cell? ⟨gb207, 2, none⟩ = some (.slice A0_2 l0_2.length c0_2) ∧ w'.cell? ⟨gb207, 3, none⟩ = some (.slice A0_3 l0_3.length c0_3) ∧ w'.cell? ⟨gb208, 0, none⟩ = some (.bool a2_0) ∧ w'.cell? ⟨gb208, 1, none⟩ = some (.slice A2_1 l2_1.length c2_1) ∧ w'.cell? ⟨gb208, 2, none⟩ = some (.slice A2_2 l2_2.length c2_2) ∧ w'.cell? ⟨gb208, 3, none⟩ = some (.slice A2_3 l2_3.length c2_3)) (ds := [4, 5]) #[false, false, false, false, false, false] (by kernel_rfl) rfl rfl ⟨bc BK207.out, bc BK207.out, bc BK207.out, bc BK207.out, bc BK208.out, bc BK208.out, bc BK208.out, bc BK208.out⟩ (fun hHeld => ?_)
 generalize w10.drew = w11 at BK207 BK208 HB hHeld ⊢
 refine take_ (i := 0) (N := some 18) (v := ?_) (a' := ?_) #[true, false, false, false, false, false] rfl rfl (by kernel_rfl) (fun _ _ _ h => h) (Or.inl ⟨by rfl, ?_⟩) hHeld ?_ ?_
 rotate_left
 ·
  rintro w' ⟨s0, s1, s2, s3, s4, s5, s6, s7⟩
  go_simp
  with_reducible rfl
 rotate_left
 ·
  simp only [Act.put, List.setIfInBounds_toArray, List.set_cons_zero, List.set_cons_succ, i64_w, i32_w]
  rfl
 refine take_ (i := 2) (N := some 20) (v := ?_) (a' := ?_) #[true, false, true, false, false, false] rfl rfl (by kernel_rfl) (fun _ _ _ h => h) (Or.inl ⟨by rfl, ?_⟩) hHeld ?_ ?_
 rotate_left
 ·
  rintro w' ⟨s0, s1, s2, s3, s4, s5, s6, s7⟩
  go_simp
  with_reducible rfl
 rotate_left
 ·
  simp only [Act.put, List.setIfInBounds_toArray, List.set_cons_zero, List.set_cons_succ, i64_w, i32_w]
  rfl
 refine one_ (i := 1) (N := some 19) #[true, true, true, false, false, false] rfl rfl (by kernel_rfl) (by decide) (fun K hK => ?_)
 refine goes_ Try.func10 (by kernel_rfl) rfl #[.agg #[.bool a0_0, .slice A0_1 l0_1.length c0_1, .slice A0_2 l0_2.length c0_2, .slice A0_3 l0_3.length c0_3]] (by rfl) rfl rfl (by (try simp only [List.map_toArray, List.map_cons, List.map_nil]); first | done | rfl | (simp only [List.length_drop, List.length_take]; rfl)) ?_
 with_reducible refine (penelopelaw07_few.calls a0_0 (fun k_ => k_ < w.heap.size) _ _ l0_1 (fun k_ => k_ < w.heap.size) _ _ l0_2 (fun k_ => k_ < w.heap.size) _ _ l0_3 t209 t210 t213 t216 _ ?side1 ?side2 ?side3 A4.out).mono ?_
 (case side1 => exact Kd.V_mk HC0_1.out (Kd.F_below (Kd.C_F Kd.heap_string HR0_1.out) (pB HB.out)))
 (case side2 => exact Kd.V_mk HC0_2.out (Kd.F_below (Kd.C_F Kd.heap_string HR0_2.out) (pB HB.out)))
 (case side3 => exact Kd.V_mk HC0_3.out (Kd.F_below (Kd.C_F (Kd.heap_int .i64) HR0_3.out) (pB HB.out)))
 rintro e w12 ⟨v211, v214, v217, rfl, ho0, ho1, ho2, hb⟩
 refine ⟨_, rfl, ?_⟩
 have HO212 := am (Kd.V_lower (Kd.V_mono (ok' := fun k_ => k_ ≠ gb207 ∧ k_ ≠ gb208) ho0 (fun k_ hk_ => ⟨Or.elim hk_ (fun hs_ => Or.elim hs_ (fun hs_ => fun e_ => Nat.not_le.2 hs_ (by rw [e_]; exact GW207.out)) (fun hs_ => Or.elim hs_ (fun hs_ => fun e_ => Nat.not_le.2 hs_ (by rw [e_]; exact GW207.out)) (fun hs_ => fun e_ => Nat.not_le.2 hs_ (by rw [e_]; exact GW207.out)))) (fun hn_ => (Kd.freshB (pk BK207.out) k_ hn_)), Or.elim hk_ (fun hs_ => Or.elim hs_ (fun hs_ => fun e_ => Nat.not_le.2 hs_ (by rw [e_]; exact GW208.out)) (fun hs_ => Or.elim hs_ (fun hs_ => fun e_ => Nat.not_le.2 hs_ (by rw [e_]; exact GW208.out)) (fun hs_ => fun e_ => Nat.not_le.2 hs_ (by rw [e_]; exact GW208.out)))) (fun hn_ => (Kd.freshB (pk BK208.out) k_ hn_))⟩)) (below_size (pB HB.out)))
 have HO215 := am (Kd.V_lower (Kd.V_mono (ok' := fun k_ => k_ ≠ gb207 ∧ k_ ≠ gb208) ho1 (fun k_ hk_ => ⟨Or.elim hk_ (fun hs_ => Or.elim hs_ (fun hs_ => fun e_ => Nat.not_le.2 hs_ (by rw [e_]; exact GW207.out)) (fun hs_ => Or.elim hs_ (fun hs_ => fun e_ => Nat.not_le.2 hs_ (by rw [e_]; exact GW207.out)) (fun hs_ => fun e_ => Nat.not_le.2 hs_ (by rw [e_]; exact GW207.out)))) (fun hn_ => (Kd.freshB (pk BK207.out) k_ hn_)), Or.elim hk_ (fun hs_ => Or.elim hs_ (fun hs_ => fun e_ => Nat.not_le.2 hs_ (by rw [e_]; exact GW208.out)) (fun hs_ => Or.elim hs_ (fun hs_ => fun e_ => Nat.not_le.2 hs_ (by rw [e_]; exact GW208.out)) (fun hs_ => fun e_ => Nat.not_le.2 hs_ (by rw [e_]; exact GW208.out)))) (fun hn_ => (Kd.freshB (pk BK208.out) k_ hn_))⟩)) (below_size (pB HB.out)))
 have HO218 := am (Kd.V_lower (Kd.V_mono (ok' := fun k_ => k_ ≠ gb207 ∧ k_ ≠ gb208) ho2 (fun k_ hk_ => ⟨Or.elim hk_ (fun hs_ => Or.elim hs_ (fun hs_ => fun e_ => Nat.not_le.2 hs_ (by rw [e_]; exact GW207.out)) (fun hs_ => Or.elim hs_ (fun hs_ => fun e_ => Nat.not_le.2 hs_ (by rw [e_]; exact GW207.out)) (fun hs_ => fun e_ => Nat.not_le.2 hs_ (by rw [e_]; exact GW207.out)))) (fun hn_ => (Kd.freshB (pk BK207.out) k_ hn_)), Or.elim hk_ (fun hs_ => Or.elim hs_ (fun hs_ => fun e_ => Nat.not_le.2 hs_ (by rw [e_]; exact GW208.out)) (fun hs_ => Or.elim hs_ (fun hs_ => fun e_ => Nat.not_le.2 hs_ (by rw [e_]; exact GW208.out)) (fun hs_ => fun e_ => Nat.not_le.2 hs_ (by rw [e_]; exact GW208.out)))) (fun hn_ => (Kd.freshB (pk BK208.out) k_ hn_))⟩)) (below_size (pB HB.out)))
 replace BK207 := am (blk_below (pk BK207.out) hb)
 replace BK208 := am (blk_below (pk BK208.out) hb)
 replace HB := am (below_step (pB HB.out) hb)
 (try clear hb)
 (try clear hb2)
 (try clear hk)
 (try clear hi)
 (try clear ho0)
 (try clear ho1)
 (try clear ho2)
 refine hK.out _ _ ⟨bc BK207.out, bc BK207.out, bc BK207.out, bc BK207.out, bc BK208.out, bc BK208.out, bc BK208.out, bc BK208.out⟩ (fun hHeld => ?_)
 clear hK K
 refine norm_ (a' := ?_) ?_ ?_
 rotate_left
 ·
  show Act.put _ (some 19) _ = _
  simp only [Act.put, List.setIfInBounds_toArray, List.set_cons_zero, List.set_cons_succ, i64_w, i32_w]
  rfl
 refine one_ (i := 3) (N := some 21) #[true, true, true, true, false, false] rfl rfl (by kernel_rfl) (by decide) (fun K hK => ?_)
 refine goes_ Try.func10 (by kernel_rfl) rfl #[.agg #[.bool a2_0, .slice A2_1 l2_1.length c2_1, .slice A2_2 l2_2.length c2_2, .slice A2_3 l2_3.length c2_3]] (by rfl) rfl rfl (by (try simp only [List.map_toArray, List.map_cons, List.map_nil]); first | done | rfl | (simp only [List.length_drop, List.length_take]; rfl)) ?_
 with_reducible refine (penelopelaw07_few.calls a2_0 (fun k_ => k_ < w.heap.size) _ _ l2_1 (fun k_ => k_ < w.heap.size) _ _ l2_2 (fun k_ => k_ < w.heap.size) _ _ l2_3 t219 t220 t223 t226 _ ?side1 ?side2 ?side3 A5.out).mono ?_
 (case side1 => exact Kd.V_mk HC2_1.out (Kd.F_below (Kd.C_F Kd.heap_string HR2_1.out) (pB HB.out)))
 (case side2 => exact Kd.V_mk HC2_2.out (Kd.F_below (Kd.C_F Kd.heap_string HR2_2.out) (pB HB.out)))
 (case side3 => exact Kd.V_mk HC2_3.out (Kd.F_below (Kd.C_F (Kd.heap_int .i64) HR2_3.out) (pB HB.out)))
 rintro e w13 ⟨v221, v224, v227, rfl, ho0, ho1, ho2, hb⟩
 refine ⟨_, rfl, ?_⟩
 replace HO212 := am (Kd.V_below (pV HO212.out) hb)
 replace HO215 := am (Kd.V_below (pV HO215.out) hb)
 replace HO218 := am (Kd.V_below (pV HO218.out) hb)
 have HO222 := am (Kd.V_lower (Kd.V_mono (ok' := fun k_ => k_ ≠ gb207 ∧ k_ ≠ gb208) ho0 (fun k_ hk_ => ⟨Or.elim hk_ (fun hs_ => Or.elim hs_ (fun hs_ => fun e_ => Nat.not_le.2 hs_ (by rw [e_]; exact GW207.out)) (fun hs_ => Or.elim hs_ (fun hs_ => fun e_ => Nat.not_le.2 hs_ (by rw [e_]; exact GW207.out)) (fun hs_ => fun e_ => Nat.not_le.2 hs_ (by rw [e_]; exact GW207.out)))) (fun hn_ => (Kd.freshB (pk BK207.out) k_ hn_)), Or.elim hk_ (fun hs_ => Or.elim hs_ (fun hs_ => fun e_ => Nat.not_le.2 hs_ (by rw [e_]; exact GW208.out)) (fun hs_ => Or.elim hs_ (fun hs_ => fun e_ => Nat.not_le.2 hs_ (by rw [e_]; exact GW208.out)) (fun hs_ => fun e_ => Nat.not_le.2 hs_ (by rw [e_]; exact GW208.out)))) (fun hn_ => (Kd.freshB (pk BK208.out) k_ hn_))⟩)) (below_size (pB HB.out)))
 have HO225 := am (Kd.V_lower (Kd.V_mono (ok' := fun k_ => k_ ≠ gb207 ∧ k_ ≠ gb208) ho1 (fun k_ hk_ => ⟨Or.elim hk_ (fun hs_ => Or.elim hs_ (fun hs_ => fun e_ => Nat.not_le.2 hs_ (by rw [e_]; exact GW207.out)) (fun hs_ => Or.elim hs_ (fun hs_ => fun e_ => Nat.not_le.2 hs_ (by rw [e_]; exact GW207.out)) (fun hs_ => fun e_ => Nat.not_le.2 hs_ (by rw [e_]; exact GW207.out)))) (fun hn_ => (Kd.freshB (pk BK207.out) k_ hn_)), Or.elim hk_ (fun hs_ => Or.elim hs_ (fun hs_ => fun e_ => Nat.not_le.2 hs_ (by rw [e_]; exact GW208.out)) (fun hs_ => Or.elim hs_ (fun hs_ => fun e_ => Nat.not_le.2 hs_ (by rw [e_]; exact GW208.out)) (fun hs_ => fun e_ => Nat.not_le.2 hs_ (by rw [e_]; exact GW208.out)))) (fun hn_ => (Kd.freshB (pk BK208.out) k_ hn_))⟩)) (below_size (pB HB.out)))
 have HO228 := am (Kd.V_lower (Kd.V_mono (ok' := fun k_ => k_ ≠ gb207 ∧ k_ ≠ gb208) ho2 (fun k_ hk_ => ⟨Or.elim hk_ (fun hs_ => Or.elim hs_ (fun hs_ => fun e_ => Nat.not_le.2 hs_ (by rw [e_]; exact GW207.out)) (fun hs_ => Or.elim hs_ (fun hs_ => fun e_ => Nat.not_le.2 hs_ (by rw [e_]; exact GW207.out)) (fun hs_ => fun e_ => Nat.not_le.2 hs_ (by rw [e_]; exact GW207.out)))) (fun hn_ => (Kd.freshB (pk BK207.out) k_ hn_)), Or.elim hk_ (fun hs_ => Or.elim hs_ (fun hs_ => fun e_ => Nat.not_le.2 hs_ (by rw [e_]; exact GW208.out)) (fun hs_ => Or.elim hs_ (fun hs_ => fun e_ => Nat.not_le.2 hs_ (by rw [e_]; exact GW208.out)) (fun hs_ => fun e_ => Nat.not_le.2 hs_ (by rw [e_]; exact GW208.out)))) (fun hn_ => (Kd.freshB (pk BK208.out) k_ hn_))⟩)) (below_size (pB HB.out)))
 replace BK207 := am (blk_below (pk BK207.out) hb)
 replace BK208 := am (blk_below (pk BK208.out) hb)
 replace HB := am (below_step (pB HB.out) hb)
 (try clear hb)
 (try clear hb2)
 (try clear hk)
 (try clear hi)
 (try clear ho0)
 (try clear ho1)
 (try clear ho2)
 obtain ⟨Ao15, co15, eo15⟩ := Kd.V_slice HO212.out
 (first | subst eo15 | (injection eo15 with f1_ f2_ f3_; have f4_ := f1_.symm; have f5_ := f3_.symm; clear f1_ f2_ f3_; subst f4_; subst f5_))
 obtain ⟨Ao17, co17, eo17⟩ := Kd.V_slice HO215.out
 (first | subst eo17 | (injection eo17 with f1_ f2_ f3_; have f4_ := f1_.symm; have f5_ := f3_.symm; clear f1_ f2_ f3_; subst f4_; subst f5_))
 obtain ⟨Ao19, co19, eo19⟩ := Kd.V_slice HO218.out
 (first | subst eo19 | (injection eo19 with f1_ f2_ f3_; have f4_ := f1_.symm; have f5_ := f3_.symm; clear f1_ f2_ f3_; subst f4_; subst f5_))
 obtain ⟨Ao22, co22, eo22⟩ := Kd.V_slice HO222.out
 (first | subst eo22 | (injection eo22 with f1_ f2_ f3_; have f4_ := f1_.symm; have f5_ := f3_.symm; clear f1_ f2_ f3_; subst f4_; subst f5_))
 obtain ⟨Ao24, co24, eo24⟩ := Kd.V_slice HO225.out
 (first | subst eo24 | (injection eo24 with f1_ f2_ f3_; have f4_ := f1_.symm; have f5_ := f3_.symm; clear f1_ f2_ f3_; subst f4_; subst f5_))
 obtain ⟨Ao26, co26, eo26⟩ := Kd.V_slice HO228.out
 (first | subst eo26 | (injection eo26 with f1_ f2_ f3_; have f4_ := f1_.symm; have f5_ := f3_.symm; clear f1_ f2_ f3_; subst f4_; subst f5_))
 refine hK.out _ _ ⟨bc BK207.out, bc BK207.out, bc BK207.out, bc BK207.out, bc BK208.out, bc BK208.out, bc BK208.out, bc BK208.out⟩ (fun hHeld => ?_)
 clear hK K
 refine norm_ (a' := ?_) ?_ ?_
 rotate_left
 ·
  show Act.put _ (some 21) _ = _
  simp only [Act.put, List.setIfInBounds_toArray, List.set_cons_zero, List.set_cons_succ, i64_w, i32_w]
  rfl
 refine last_ (i := 4) (N := none) #[true, true, true, true, true, false] rfl rfl (by kernel_rfl) (by decide) (fun K hK => ?_)
 have hs14 : w13.cell? ⟨gb207, 0, none⟩ = some (.bool a0_0) := bc BK207.out
 have hfs14 := z1 BK207.out
 have hns14_1 := NB208_207.out
 have hms14_1 := NB207_208.out
 have hs16 : w13.cell? ⟨gb207, 1, none⟩ = some (.slice A0_1 l0_1.length c0_1) := bc BK207.out
 have hfs16 := blk_frozen BK207.out 1
 have hns16_1 := NB208_207.out
 have hms16_1 := NB207_208.out
 have hs18 : w13.cell? ⟨gb207, 2, none⟩ = some (.slice A0_2 l0_2.length c0_2) := bc BK207.out
 have hfs18 := blk_frozen BK207.out 2
 have hns18_1 := NB208_207.out
 have hms18_1 := NB207_208.out
 have hs20 : w13.cell? ⟨gb207, 3, none⟩ = some (.slice A0_3 l0_3.length c0_3) := bc BK207.out
 have hfs20 := blk_frozen BK207.out 3
 have hns20_1 := NB208_207.out
 have hms20_1 := NB207_208.out
 refine skip_ (w1 := ?_) (by rfl) rfl ?_ ?_
 rotate_left
 ·
  go_simp
  rfl
 refine hK.out _ _ ?_
 clear hK K
 refine last_ (i := 5) (N := none) #[true, true, true, true, true, true] rfl rfl (by kernel_rfl) (by decide) (fun K hK => ?_)
 have hs21 : w13.cell? ⟨gb208, 0, none⟩ = some (.bool a2_0) := bc BK208.out
 have hfs21 := z1 BK208.out
 have hns21_0 := NB207_208.out
 have hms21_0 := NB208_207.out
 have hs23 : w13.cell? ⟨gb208, 1, none⟩ = some (.slice A2_1 l2_1.length c2_1) := bc BK208.out
 have hfs23 := blk_frozen BK208.out 1
 have hns23_0 := NB207_208.out
 have hms23_0 := NB208_207.out
 have hs25 : w13.cell? ⟨gb208, 2, none⟩ = some (.slice A2_2 l2_2.length c2_2) := bc BK208.out
 have hfs25 := blk_frozen BK208.out 2
 have hns25_0 := NB207_208.out
 have hms25_0 := NB208_207.out
 have hs27 : w13.cell? ⟨gb208, 3, none⟩ = some (.slice A2_3 l2_3.length c2_3) := bc BK208.out
 have hfs27 := blk_frozen BK208.out 3
 have hns27_0 := NB207_208.out
 have hms27_0 := NB208_207.out
 refine skip_ (w1 := ?_) (by rfl) rfl ?_ ?_
 rotate_left
 ·
  go_simp
  rfl
 refine hK.out _ _ ?_
 clear hK K
 refine done_ (by kernel_rfl) ?_
 have hnb28 := NB207_208.out
 have hnc28 := NB208_207.out
 obtain ⟨hcz29_0, hcz29_1, hcz29_2, hcz29_3⟩ := c4 BK207.out
 obtain ⟨hfz29_0, hfz29_1, hfz29_2, hfz29_3⟩ := z4 BK207.out
 obtain ⟨hcz30_0, hcz30_1, hcz30_2, hcz30_3⟩ := c4 BK208.out
 obtain ⟨hfz30_0, hfz30_1, hfz30_2, hfz30_3⟩ := z4 BK208.out
 go_upto_region 4 with (first | ((with_reducible refine gate_callee (f := 21) rfl ?_); refine goesL_ (some 26) rfl rfl Try.func21 (by kernel_rfl) rfl #[.agg #[.bool t209, .slice Ao15 t210.length co15, .slice Ao17 t213.length co17, .slice Ao19 t216.length co19], .string a1, .agg #[.bool t219, .slice Ao22 t220.length co22, .slice Ao24 t223.length co24, .slice Ao26 t226.length co26]] rfl (by (try simp only [List.map_toArray, List.map_cons, List.map_nil]); first | done | rfl | (simp only [List.length_drop, List.length_take]; rfl)) ?_; (with_reducible refine (node_Join.calls k t209 _ _ t210 _ _ t213 _ _ t216 a1 t219 _ _ t220 _ _ t223 _ _ t226 t229 t230 t233 t236 t239 _ ?side1 ?side2 ?side3 ?side4 ?side5 ?side6 ?side7 ?side8 ?side9 ?side10 ?side11 ?side12 A6.out).mono ?_); (case side1 => exact (Kd.V_reads' (pV HO212.out)).2.2); (case side2 => exact (Kd.V_reads' HO212.out).2.1); (case side3 => exact (Kd.V_reads' (pV HO215.out)).2.2); (case side4 => exact (Kd.V_reads' HO215.out).2.1); (case side5 => exact (Kd.V_reads' (pV HO218.out)).2.2); (case side6 => exact (Kd.V_reads' HO218.out).2.1); (case side7 => exact (Kd.V_reads' (pV HO222.out)).2.2); (case side8 => exact (Kd.V_reads' HO222.out).2.1); (case side9 => exact (Kd.V_reads' (pV HO225.out)).2.2); (case side10 => exact (Kd.V_reads' HO225.out).2.1); (case side11 => exact (Kd.V_reads' (pV HO228.out)).2.2); (case side12 => exact (Kd.V_reads' HO228.out).2.1); rintro e w31 ⟨v231, v234, v237, rfl, ho0, ho1, ho2, hb⟩; refine ⟨_, rfl, ?_⟩; replace HO212 := am (Kd.V_below (pV HO212.out) hb); replace HO215 := am (Kd.V_below (pV HO215.out) hb); replace HO218 := am (Kd.V_below (pV HO218.out) hb); replace HO222 := am (Kd.V_below (pV HO222.out) hb); replace HO225 := am (Kd.V_below (pV HO225.out) hb); replace HO228 := am (Kd.V_below (pV HO228.out) hb); have HO232 := am (Kd.V_lower (Kd.V_mono (ok' := fun k_ => k_ ≠ gb207 ∧ k_ ≠ gb208) ho0 (fun k_ hk_ => ⟨(Kd.freshB (g := gb207) (o := .cells #[.bool t209, .slice Ao15 t210.length co15, .slice Ao17 t213.length co17, .slice Ao19 t216.length co19] 25 (0, 0)) (pP BK207.out) k_ hk_), (Kd.freshB (g := gb208) (o := .cells #[.bool t219, .slice Ao22 t220.length co22, .slice Ao24 t223.length co24, .slice Ao26 t226.length co26] 25 (0, 0)) (pP BK208.out) k_ hk_)⟩)) (below_size (pB HB.out))); have HO235 := am (Kd.V_lower (Kd.V_mono (ok' := fun k_ => k_ ≠ gb207 ∧ k_ ≠ gb208) ho1 (fun k_ hk_ => ⟨(Kd.freshB (g := gb207) (o := .cells #[.bool t209, .slice Ao15 t210.length co15, .slice Ao17 t213.length co17, .slice Ao19 t216.length co19] 25 (0, 0)) (pP BK207.out) k_ hk_), (Kd.freshB (g := gb208) (o := .cells #[.bool t219, .slice Ao22 t220.length co22, .slice Ao24 t223.length co24, .slice Ao26 t226.length co26] 25 (0, 0)) (pP BK208.out) k_ hk_)⟩)) (below_size (pB HB.out))); have HO238 := am (Kd.V_lower (Kd.V_mono (ok' := fun k_ => k_ ≠ gb207 ∧ k_ ≠ gb208) ho2 (fun k_ hk_ => ⟨(Kd.freshB (g := gb207) (o := .cells #[.bool t209, .slice Ao15 t210.length co15, .slice Ao17 t213.length co17, .slice Ao19 t216.length co19] 25 (0, 0)) (pP BK207.out) k_ hk_), (Kd.freshB (g := gb208) (o := .cells #[.bool t219, .slice Ao22 t220.length co22, .slice Ao24 t223.length co24, .slice Ao26 t226.length co26] 25 (0, 0)) (pP BK208.out) k_ hk_)⟩)) (below_size (pB HB.out))); replace BK207 := am (blk_below (g := gb207) (o := .cells #[.bool t209, .slice Ao15 t210.length co15, .slice Ao17 t213.length co17, .slice Ao19 t216.length co19] 25 (0, 0)) (pP BK207.out) hb); replace BK208 := am (blk_below (g := gb208) (o := .cells #[.bool t219, .slice Ao22 t220.length co22, .slice Ao24 t223.length co24, .slice Ao26 t226.length co26] 25 (0, 0)) (pP BK208.out) hb); replace HB := am (below_step (pB HB.out) hb); (try clear hb); (try clear hb2); (try clear hk); (try clear hi); (try clear ho0); (try clear ho1); (try clear ho2)) | ((with_reducible refine gate_dst (N := 7) rfl ?_); (try (refine gate_guard (by rfl) ?_; dsimp only)); refine bx 7 #[.bool false, .slice none 0 0, .slice none 0 0, .slice none 0 0] 25 ?_; intro gb240 hg w32 hbox hb; replace HO212 := am (Kd.V_below (Kd.V_elderB (pV HO212.out) gb240 (Nat.le_of_eq hg.symm)) hb); replace HO215 := am (Kd.V_below (Kd.V_elderB (pV HO215.out) gb240 (Nat.le_of_eq hg.symm)) hb); replace HO218 := am (Kd.V_below (Kd.V_elderB (pV HO218.out) gb240 (Nat.le_of_eq hg.symm)) hb); replace HO222 := am (Kd.V_below (Kd.V_elderB (pV HO222.out) gb240 (Nat.le_of_eq hg.symm)) hb); replace HO225 := am (Kd.V_below (Kd.V_elderB (pV HO225.out) gb240 (Nat.le_of_eq hg.symm)) hb); replace HO228 := am (Kd.V_below (Kd.V_elderB (pV HO228.out) gb240 (Nat.le_of_eq hg.symm)) hb); replace HO232 := am (Kd.V_below (Kd.V_elderB (pV HO232.out) gb240 (Nat.le_of_eq hg.symm)) hb); replace HO235 := am (Kd.V_below (Kd.V_elderB (pV HO235.out) gb240 (Nat.le_of_eq hg.symm)) hb); replace HO238 := am (Kd.V_below (Kd.V_elderB (pV HO238.out) gb240 (Nat.le_of_eq hg.symm)) hb); have BK240 := am (hbox); have GW240 := am (gs hg (pB HB.out)); have GE240 := am (gs hg (pB HB.out)); replace HB := am (below_step (pB HB.out) hb); have NB207_240 := am (nl hg (pk BK207.out)); have NB240_207 := am (ng hg (pk BK207.out)); replace BK207 := am (blk_below (pk BK207.out) hb); have NB208_240 := am (nl hg (pk BK208.out)); have NB240_208 := am (ng hg (pk BK208.out)); replace BK208 := am (blk_below (pk BK208.out) hb); clear hb hbox hg; have hnb33 := NB240_207.out; have hnc33 := NB207_240.out; have hnb34 := NB240_208.out; have hnc34 := NB208_240.out; obtain ⟨hcz35_0, hcz35_1, hcz35_2, hcz35_3⟩ := c4 BK240.out; obtain ⟨hfz35_0, hfz35_1, hfz35_2, hfz35_3⟩ := z4 BK240.out; obtain ⟨Ao36, co36, eo36⟩ := Kd.V_slice HO232.out; subst eo36; obtain ⟨Ao37, co37, eo37⟩ := Kd.V_slice HO235.out; subst eo37; obtain ⟨Ao38, co38, eo38⟩ := Kd.V_slice HO238.out; subst eo38; obtain ⟨hcz39_0, hcz39_1, hcz39_2, hcz39_3⟩ := c4 BK207.out; obtain ⟨hfz39_0, hfz39_1, hfz39_2, hfz39_3⟩ := z4 BK207.out; obtain ⟨hcz40_0, hcz40_1, hcz40_2, hcz40_3⟩ := c4 BK208.out; obtain ⟨hfz40_0, hfz40_1, hfz40_2, hfz40_3⟩ := z4 BK208.out) | ((with_reducible refine gate_callee (f := 22) rfl ?_); refine goesL_ (some 33) rfl rfl Try.func22 (by kernel_rfl) rfl #[.agg #[.bool t209, .slice Ao15 t210.length co15, .slice Ao17 t213.length co17, .slice Ao19 t216.length co19], .string a1, .agg #[.bool t219, .slice Ao22 t220.length co22, .slice Ao24 t223.length co24, .slice Ao26 t226.length co26]] rfl (by (try simp only [List.map_toArray, List.map_cons, List.map_nil]); first | done | rfl | (simp only [List.length_drop, List.length_take]; rfl)) ?_; (with_reducible refine (peneloperef07_Join.calls k t209 _ _ t210 _ _ t213 _ _ t216 a1 t219 _ _ t220 _ _ t223 _ _ t226 t241 t242 t245 t248 t251 _ ?side1 ?side2 ?side3 ?side4 ?side5 ?side6 ?side7 ?side8 ?side9 ?side10 ?side11 ?side12 A7.out).mono ?_); (case side1 => exact (Kd.V_reads' (pV HO212.out)).2.2); (case side2 => exact (Kd.V_reads' HO212.out).2.1); (case side3 => exact (Kd.V_reads' (pV HO215.out)).2.2); (case side4 => exact (Kd.V_reads' HO215.out).2.1); (case side5 => exact (Kd.V_reads' (pV HO218.out)).2.2); (case side6 => exact (Kd.V_reads' HO218.out).2.1); (case side7 => exact (Kd.V_reads' (pV HO222.out)).2.2); (case side8 => exact (Kd.V_reads' HO222.out).2.1); (case side9 => exact (Kd.V_reads' (pV HO225.out)).2.2); (case side10 => exact (Kd.V_reads' HO225.out).2.1); (case side11 => exact (Kd.V_reads' (pV HO228.out)).2.2); (case side12 => exact (Kd.V_reads' HO228.out).2.1); rintro e w41 ⟨v243, v246, v249, rfl, ho0, ho1, ho2, hb⟩; refine ⟨_, rfl, ?_⟩; replace HO212 := am (Kd.V_mono (Kd.V_told (Kd.V_told (Kd.V_told (Kd.V_old (pV HO212.out) hb) (Kd.R_base ho0)) (Kd.R_base ho1)) (Kd.R_base ho2)) (fun _ h_ => h_.1)); replace HO215 := am (Kd.V_mono (Kd.V_told (Kd.V_told (Kd.V_told (Kd.V_old (pV HO215.out) hb) (Kd.R_base ho0)) (Kd.R_base ho1)) (Kd.R_base ho2)) (fun _ h_ => h_.1)); replace HO218 := am (Kd.V_mono (Kd.V_told (Kd.V_told (Kd.V_told (Kd.V_old (pV HO218.out) hb) (Kd.R_base ho0)) (Kd.R_base ho1)) (Kd.R_base ho2)) (fun _ h_ => h_.1)); replace HO222 := am (Kd.V_mono (Kd.V_told (Kd.V_told (Kd.V_told (Kd.V_old (pV HO222.out) hb) (Kd.R_base ho0)) (Kd.R_base ho1)) (Kd.R_base ho2)) (fun _ h_ => h_.1)); replace HO225 := am (Kd.V_mono (Kd.V_told (Kd.V_told (Kd.V_told (Kd.V_old (pV HO225.out) hb) (Kd.R_base ho0)) (Kd.R_base ho1)) (Kd.R_base ho2)) (fun _ h_ => h_.1)); replace HO228 := am (Kd.V_mono (Kd.V_told (Kd.V_told (Kd.V_told (Kd.V_old (pV HO228.out) hb) (Kd.R_base ho0)) (Kd.R_base ho1)) (Kd.R_base ho2)) (fun _ h_ => h_.1)); replace HO232 := am (Kd.V_mono (Kd.V_told (Kd.V_told (Kd.V_told (Kd.V_old (pV HO232.out) hb) (Kd.R_base ho0)) (Kd.R_base ho1)) (Kd.R_base ho2)) (fun _ h_ => h_.1)); replace HO235 := am (Kd.V_mono (Kd.V_told (Kd.V_told (Kd.V_told (Kd.V_old (pV HO235.out) hb) (Kd.R_base ho0)) (Kd.R_base ho1)) (Kd.R_base ho2)) (fun _ h_ => h_.1)); replace HO238 := am (Kd.V_mono (Kd.V_told (Kd.V_told (Kd.V_told (Kd.V_old (pV HO238.out) hb) (Kd.R_base ho0)) (Kd.R_base ho1)) (Kd.R_base ho2)) (fun _ h_ => h_.1)); have HO244 := am (Kd.R_lower ho0 (below_size (pB HB.out))); have HO247 := am (Kd.R_lower ho1 (below_size (pB HB.out))); have HO250 := am (Kd.R_lower ho2 (below_size (pB HB.out))); replace BK207 := am (blk_below (pk BK207.out) hb); replace BK208 := am (blk_below (pk BK208.out) hb); replace BK240 := am (blk_below (g := gb240) (o := .cells #[.bool t229, .slice Ao36 t230.length co36, .slice Ao37 t233.length co37, .slice Ao38 t236.length co38] 25 (0, 0)) (pP BK240.out) hb); replace HB := am (below_step (pB HB.out) hb); (try clear hb); (try clear hb2); (try clear hk); (try clear hi); (try clear ho0); (try clear ho1); (try clear ho2)) | ((with_reducible refine gate_dst (N := 9) rfl ?_); (try (refine gate_guard (by rfl) ?_; dsimp only)); refine bx 9 #[.bool false, .slice none 0 0, .slice none 0 0, .slice none 0 0] 25 ?_; intro gb252 hg w42 hbox hb; replace HO212 := am (Kd.V_below (Kd.V_elderB (pV HO212.out) gb252 (Nat.le_of_eq hg.symm)) hb); replace HO215 := am (Kd.V_below (Kd.V_elderB (pV HO215.out) gb252 (Nat.le_of_eq hg.symm)) hb); replace HO218 := am (Kd.V_below (Kd.V_elderB (pV HO218.out) gb252 (Nat.le_of_eq hg.symm)) hb); replace HO222 := am (Kd.V_below (Kd.V_elderB (pV HO222.out) gb252 (Nat.le_of_eq hg.symm)) hb); replace HO225 := am (Kd.V_below (Kd.V_elderB (pV HO225.out) gb252 (Nat.le_of_eq hg.symm)) hb); replace HO228 := am (Kd.V_below (Kd.V_elderB (pV HO228.out) gb252 (Nat.le_of_eq hg.symm)) hb); replace HO232 := am (Kd.V_below (Kd.V_elderB (pV HO232.out) gb252 (Nat.le_of_eq hg.symm)) hb); replace HO235 := am (Kd.V_below (Kd.V_elderB (pV HO235.out) gb252 (Nat.le_of_eq hg.symm)) hb); replace HO238 := am (Kd.V_below (Kd.V_elderB (pV HO238.out) gb252 (Nat.le_of_eq hg.symm)) hb); replace HO244 := am (Kd.R_below (pR HO244.out) hb); replace HO247 := am (Kd.R_below (pR HO247.out) hb); replace HO250 := am (Kd.R_below (pR HO250.out) hb); have BK252 := am (hbox); have GW252 := am (gs hg (pB HB.out)); have GE252 := am (gs hg (pB HB.out)); replace HB := am (below_step (pB HB.out) hb); have NB207_252 := am (nl hg (pk BK207.out)); have NB252_207 := am (ng hg (pk BK207.out)); replace BK207 := am (blk_below (pk BK207.out) hb); have NB208_252 := am (nl hg (pk BK208.out)); have NB252_208 := am (ng hg (pk BK208.out)); replace BK208 := am (blk_below (pk BK208.out) hb); have NB240_252 := am (nl hg (pk BK240.out)); have NB252_240 := am (ng hg (pk BK240.out)); replace BK240 := am (blk_below (pk BK240.out) hb); clear hb hbox hg; have hnb43 := NB252_207.out; have hnc43 := NB207_252.out; have hnb44 := NB252_208.out; have hnc44 := NB208_252.out; have hnb45 := NB252_240.out; have hnc45 := NB240_252.out; obtain ⟨hcz46_0, hcz46_1, hcz46_2, hcz46_3⟩ := c4 BK252.out; obtain ⟨hfz46_0, hfz46_1, hfz46_2, hfz46_3⟩ := z4 BK252.out; obtain ⟨Ao47, co47, eo47⟩ := Kd.R_slice HO244.out; subst eo47; obtain ⟨Ao48, co48, eo48⟩ := Kd.R_slice HO247.out; subst eo48; obtain ⟨Ao49, co49, eo49⟩ := Kd.R_slice HO250.out; subst eo49))
 (try simp only [Act.put, List.setIfInBounds_toArray, List.set_cons_zero, List.set_cons_succ])
 go_cut [48] (fun v48 wc => ∃ (kq : Nat) (x48_7 : Bool), v48 = .bool x48_7 ∧ Aside0 (penelopelaw07_NodeCuts.j0 kq x48_7 t209 t210 t213 t216 = some r) ∧ Aside0 (kq ≤ k) ∧ Aside0 (Kd.V Kd.string 9 wc w.heap.size (fun k_ => some k_ ≠ ((.slice Ao47 t242.length co47) : Value).ownBlock ∧ some k_ ≠ ((.slice Ao48 t245.length co48) : Value).ownBlock ∧ some k_ ≠ ((.slice Ao49 t248.length co49) : Value).ownBlock ∧ k_ ≠ gb207 ∧ k_ ≠ gb208 ∧ k_ ≠ gb240 ∧ k_ ≠ gb252) (.slice Ao15 t210.length co15) t210) ∧ Aside0 (Kd.V Kd.string 9 wc w.heap.size (fun k_ => some k_ ≠ ((.slice Ao47 t242.length co47) : Value).ownBlock ∧ some k_ ≠ ((.slice Ao48 t245.length co48) : Value).ownBlock ∧ some k_ ≠ ((.slice Ao49 t248.length co49) : Value).ownBlock ∧ k_ ≠ gb207 ∧ k_ ≠ gb208 ∧ k_ ≠ gb240 ∧ k_ ≠ gb252) (.slice Ao17 t213.length co17) t213) ∧ Aside0 (Kd.V (Kd.int .i64) 3 wc w.heap.size (fun k_ => some k_ ≠ ((.slice Ao47 t242.length co47) : Value).ownBlock ∧ some k_ ≠ ((.slice Ao48 t245.length co48) : Value).ownBlock ∧ some k_ ≠ ((.slice Ao49 t248.length co49) : Value).ownBlock ∧ k_ ≠ gb207 ∧ k_ ≠ gb208 ∧ k_ ≠ gb240 ∧ k_ ≠ gb252) (.slice Ao19 t216.length co19) t216) ∧ Aside0 (Kd.V Kd.string 9 wc w.heap.size (fun k_ => some k_ ≠ ((.slice Ao47 t242.length co47) : Value).ownBlock ∧ some k_ ≠ ((.slice Ao48 t245.length co48) : Value).ownBlock ∧ some k_ ≠ ((.slice Ao49 t248.length co49) : Value).ownBlock ∧ k_ ≠ gb207 ∧ k_ ≠ gb208 ∧ k_ ≠ gb240 ∧ k_ ≠ gb252) (.slice Ao22 t220.length co22) t220) ∧ Aside0 (Kd.V Kd.string 9 wc w.heap.size (fun k_ => some k_ ≠ ((.slice Ao47 t242.length co47) : Value).ownBlock ∧ some k_ ≠ ((.slice Ao48 t245.length co48) : Value).ownBlock ∧ some k_ ≠ ((.slice Ao49 t248.length co49) : Value).ownBlock ∧ k_ ≠ gb207 ∧ k_ ≠ gb208 ∧ k_ ≠ gb240 ∧ k_ ≠ gb252) (.slice Ao24 t223.length co24) t223) ∧ Aside0 (Kd.V (Kd.int .i64) 3 wc w.heap.size (fun k_ => some k_ ≠ ((.slice Ao47 t242.length co47) : Value).ownBlock ∧ some k_ ≠ ((.slice Ao48 t245.length co48) : Value).ownBlock ∧ some k_ ≠ ((.slice Ao49 t248.length co49) : Value).ownBlock ∧ k_ ≠ gb207 ∧ k_ ≠ gb208 ∧ k_ ≠ gb240 ∧ k_ ≠ gb252) (.slice Ao26 t226.length co26) t226) ∧ Aside0 (Kd.V Kd.string 9 wc w.heap.size (fun k_ => some k_ ≠ ((.slice Ao47 t242.length co47) : Value).ownBlock ∧ some k_ ≠ ((.slice Ao48 t245.length co48) : Value).ownBlock ∧ some k_ ≠ ((.slice Ao49 t248.length co49) : Value).ownBlock ∧ k_ ≠ gb207 ∧ k_ ≠ gb208 ∧ k_ ≠ gb240 ∧ k_ ≠ gb252) (.slice Ao36 t230.length co36) t230) ∧ Aside0 (Kd.V Kd.string 9 wc w.heap.size (fun k_ => some k_ ≠ ((.slice Ao47 t242.length co47) : Value).ownBlock ∧ some k_ ≠ ((.slice Ao48 t245.length co48) : Value).ownBlock ∧ some k_ ≠ ((.slice Ao49 t248.length co49) : Value).ownBlock ∧ k_ ≠ gb207 ∧ k_ ≠ gb208 ∧ k_ ≠ gb240 ∧ k_ ≠ gb252) (.slice Ao37 t233.length co37) t233) ∧ Aside0 (Kd.V (Kd.int .i64) 3 wc w.heap.size (fun k_ => some k_ ≠ ((.slice Ao47 t242.length co47) : Value).ownBlock ∧ some k_ ≠ ((.slice Ao48 t245.length co48) : Value).ownBlock ∧ some k_ ≠ ((.slice Ao49 t248.length co49) : Value).ownBlock ∧ k_ ≠ gb207 ∧ k_ ≠ gb208 ∧ k_ ≠ gb240 ∧ k_ ≠ gb252) (.slice Ao38 t236.length co38) t236) ∧ Aside0 (Kd.R Kd.string 9 wc w.heap.size (fun k_ => some k_ ≠ ((.slice Ao48 t245.length co48) : Value).ownBlock) (.slice Ao47 t242.length co47) t242) ∧ Aside0 (Kd.R Kd.string 9 wc w.heap.size (fun k_ => some k_ ≠ ((.slice Ao47 t242.length co47) : Value).ownBlock) (.slice Ao48 t245.length co48) t245) ∧ Aside0 (Kd.R (Kd.int .i64) 3 wc w.heap.size (fun _ => True) (.slice Ao49 t248.length co49) t248) ∧ Aside0 (wc.heap[gb207]? = some (.cells #[.bool t209, (.slice Ao15 t210.length co15), (.slice Ao17 t213.length co17), (.slice Ao19 t216.length co19)] 25 (0, 0))) ∧ Aside0 (wc.heap[gb208]? = some (.cells #[.bool t219, (.slice Ao22 t220.length co22), (.slice Ao24 t223.length co24), (.slice Ao26 t226.length co26)] 25 (0, 0))) ∧ Aside0 (wc.heap[gb240]? = some (.cells #[.bool t229, (.slice Ao36 t230.length co36), (.slice Ao37 t233.length co37), (.slice Ao38 t236.length co38)] 25 (0, 0))) ∧ Aside0 (wc.heap[gb252]? = some (.cells #[.bool t241, (.slice Ao47 t242.length co47), (.slice Ao48 t245.length co48), (.slice Ao49 t248.length co49)] 25 (0, 0))) ∧ Aside0 (Below w.heap.size w wc))
 case first =>
  have H := HC8.out
  clear HC8
  by_cases c50 : t239 = t251
  ·
   rw [if_pos c50] at H
   have c50b0 : (t239 == t251) = true := beq_iff_eq.mpr c50
   have c50b1 : (t239 != t251) = false := bne_eq_false_iff_eq.mpr c50
   clear c50
   (first | rw [c50b0] | (simp only [i64_w, i32_w]; rw [c50b0]) | skip)
   replace H := Option.bind_eq_some_iff.mp H
   obtain ⟨t253, A510, H⟩ := H
   replace H : (if t253 = true then ((penelopelaw07_alive.f k).bind fun t254 => (penelopelaw07_NodeCuts.j0 k (!t254) t209 t210 t213 t216)) else (penelopelaw07_NodeCuts.j0 k true t209 t210 t213 t216)) = some r := H
   have A51 := am A510
   clear A510
   by_cases c52 : t253 = true
   ·
    subst c52
    have H1 : ((penelopelaw07_alive.f k).bind fun t254 => (penelopelaw07_NodeCuts.j0 k (!t254) t209 t210 t213 t216)) = some r := by rw [if_pos rfl] at H; exact H
    clear H
    have H := H1
    clear H1
    replace H := Option.bind_eq_some_iff.mp H
    obtain ⟨t254, A530, H⟩ := H
    replace H : (penelopelaw07_NodeCuts.j0 k (!t254) t209 t210 t213 t216) = some r := H
    have A53 := am A530
    clear A530
    have H' := am H
    clear H
    have hnb54 := NB240_207.out
    have hnc54 := NB207_240.out
    have hnb55 := NB240_208.out
    have hnc55 := NB208_240.out
    have hnb56 := NB240_252.out
    have hnc56 := NB252_240.out
    obtain ⟨hcz57_0, hcz57_1, hcz57_2, hcz57_3⟩ := c4 BK240.out
    obtain ⟨hfz57_0, hfz57_1, hfz57_2, hfz57_3⟩ := z4 BK240.out
    have hnb58 := NB252_207.out
    have hnc58 := NB207_252.out
    have hnb59 := NB252_208.out
    have hnc59 := NB208_252.out
    obtain ⟨hcz60_0, hcz60_1, hcz60_2, hcz60_3⟩ := c4 BK252.out
    obtain ⟨hfz60_0, hfz60_1, hfz60_2, hfz60_3⟩ := z4 BK252.out
    go_wp2_with (first | (go_at_call 23; (with_reducible refine (peneloperef07_Like.calls k t229 _ _ t230 _ _ t233 _ _ t236 t241 _ _ t242 _ _ t245 _ _ t248 true _ ?side1 ?side2 ?side3 ?side4 ?side5 ?side6 ?side7 ?side8 ?side9 ?side10 ?side11 ?side12 A51.out).mono ?_); (case side1 => exact (Kd.V_reads' (pV HO232.out)).2.2); (case side2 => exact (Kd.V_reads' HO232.out).2.1); (case side3 => exact (Kd.V_reads' (pV HO235.out)).2.2); (case side4 => exact (Kd.V_reads' HO235.out).2.1); (case side5 => exact (Kd.V_reads' (pV HO238.out)).2.2); (case side6 => exact (Kd.V_reads' HO238.out).2.1); (case side7 => exact (Kd.R_reads' ((Kd.R_mono (pR (Kd.R_types HO244.out BK252.out (by decide))) (fun _ h_ => h_.1)))).2.2); (case side8 => exact (Kd.R_reads' HO244.out).2.1); (case side9 => exact (Kd.R_reads' ((Kd.R_mono (pR (Kd.R_types HO247.out BK252.out (by decide))) (fun _ h_ => h_.1)))).2.2); (case side10 => exact (Kd.R_reads' HO247.out).2.1); (case side11 => exact (Kd.R_reads' ((Kd.R_mono (pR (Kd.R_types HO250.out BK252.out (by decide))) (fun _ h_ => h_.1)))).2.2); (case side12 => exact (Kd.R_reads' HO250.out).2.1); rintro e w61 ⟨rfl, hb⟩; replace HO212 := am (Kd.V_below (pV HO212.out) hb); replace HO215 := am (Kd.V_below (pV HO215.out) hb); replace HO218 := am (Kd.V_below (pV HO218.out) hb); replace HO222 := am (Kd.V_below (pV HO222.out) hb); replace HO225 := am (Kd.V_below (pV HO225.out) hb); replace HO228 := am (Kd.V_below (pV HO228.out) hb); replace HO232 := am (Kd.V_below (pV HO232.out) hb); replace HO235 := am (Kd.V_below (pV HO235.out) hb); replace HO238 := am (Kd.V_below (pV HO238.out) hb); replace HO244 := am (Kd.R_below ((Kd.R_mono (pR (Kd.R_types HO244.out BK252.out (by decide))) (fun _ h_ => h_.1))) hb); replace HO247 := am (Kd.R_below ((Kd.R_mono (pR (Kd.R_types HO247.out BK252.out (by decide))) (fun _ h_ => h_.1))) hb); replace HO250 := am (Kd.R_below ((Kd.R_mono (pR (Kd.R_types HO250.out BK252.out (by decide))) (fun _ h_ => h_.1))) hb); replace BK207 := am (blk_below (pk BK207.out) hb); replace BK208 := am (blk_below (pk BK208.out) hb); replace BK240 := am (blk_below (pk BK240.out) hb); replace BK252 := am (blk_below (g := gb252) (o := .cells #[.bool t241, .slice Ao47 t242.length co47, .slice Ao48 t245.length co48, .slice Ao49 t248.length co49] 25 (0, 0)) (pP BK252.out) hb); replace HB := am (below_step (pB HB.out) hb); (try clear hb); (try clear hb2); (try clear hk); (try clear hi)) | (go_at_call 13; (with_reducible refine (penelopelaw07_alive.calls k  t254 _ A53.out).mono ?_); rintro e w62 ⟨rfl, hb⟩; replace HO212 := am (Kd.V_below (pV HO212.out) hb); replace HO215 := am (Kd.V_below (pV HO215.out) hb); replace HO218 := am (Kd.V_below (pV HO218.out) hb); replace HO222 := am (Kd.V_below (pV HO222.out) hb); replace HO225 := am (Kd.V_below (pV HO225.out) hb); replace HO228 := am (Kd.V_below (pV HO228.out) hb); replace HO232 := am (Kd.V_below (pV HO232.out) hb); replace HO235 := am (Kd.V_below (pV HO235.out) hb); replace HO238 := am (Kd.V_below (pV HO238.out) hb); replace HO244 := am (Kd.R_below (pR HO244.out) hb); replace HO247 := am (Kd.R_below (pR HO247.out) hb); replace HO250 := am (Kd.R_below (pR HO250.out) hb); replace BK207 := am (blk_below (pk BK207.out) hb); replace BK208 := am (blk_below (pk BK208.out) hb); replace BK240 := am (blk_below (pk BK240.out) hb); replace BK252 := am (blk_below (pk BK252.out) hb); replace HB := am (below_step (pB HB.out) hb); (try clear hb); (try clear hb2); (try clear hk); (try clear hi)))
    go_meet
    case rel => exact ⟨_, (!t254), (by first | rfl | (simp; done) | (simp [*]; done)), H', ⟨by first | omega | exact Nat.le_refl _⟩, ⟨by exact Kd.V_mono (pV HO212.out) (fun _ hk => ⟨hk.1.1.1.2, ⟨hk.1.1.2, ⟨hk.1.2, ⟨hk.1.1.1.1.1.1, ⟨hk.1.1.1.1.1.2, ⟨hk.1.1.1.1.2, hk.2⟩⟩⟩⟩⟩⟩)⟩, ⟨by exact Kd.V_mono (pV HO215.out) (fun _ hk => ⟨hk.1.1.1.2, ⟨hk.1.1.2, ⟨hk.1.2, ⟨hk.1.1.1.1.1.1, ⟨hk.1.1.1.1.1.2, ⟨hk.1.1.1.1.2, hk.2⟩⟩⟩⟩⟩⟩)⟩, ⟨by exact Kd.V_mono (pV HO218.out) (fun _ hk => ⟨hk.1.1.1.2, ⟨hk.1.1.2, ⟨hk.1.2, ⟨hk.1.1.1.1.1.1, ⟨hk.1.1.1.1.1.2, ⟨hk.1.1.1.1.2, hk.2⟩⟩⟩⟩⟩⟩)⟩, ⟨by exact Kd.V_mono (pV HO222.out) (fun _ hk => ⟨hk.1.1.1.2, ⟨hk.1.1.2, ⟨hk.1.2, ⟨hk.1.1.1.1.1.1, ⟨hk.1.1.1.1.1.2, ⟨hk.1.1.1.1.2, hk.2⟩⟩⟩⟩⟩⟩)⟩, ⟨by exact Kd.V_mono (pV HO225.out) (fun _ hk => ⟨hk.1.1.1.2, ⟨hk.1.1.2, ⟨hk.1.2, ⟨hk.1.1.1.1.1.1, ⟨hk.1.1.1.1.1.2, ⟨hk.1.1.1.1.2, hk.2⟩⟩⟩⟩⟩⟩)⟩, ⟨by exact Kd.V_mono (pV HO228.out) (fun _ hk => ⟨hk.1.1.1.2, ⟨hk.1.1.2, ⟨hk.1.2, ⟨hk.1.1.1.1.1.1, ⟨hk.1.1.1.1.1.2, ⟨hk.1.1.1.1.2, hk.2⟩⟩⟩⟩⟩⟩)⟩, ⟨by exact Kd.V_mono (pV HO232.out) (fun _ hk => ⟨hk.1.1.1.2, ⟨hk.1.1.2, ⟨hk.1.2, ⟨hk.1.1.1.1.1.1, ⟨hk.1.1.1.1.1.2, ⟨hk.1.1.1.1.2, hk.2⟩⟩⟩⟩⟩⟩)⟩, ⟨by exact Kd.V_mono (pV HO235.out) (fun _ hk => ⟨hk.1.1.1.2, ⟨hk.1.1.2, ⟨hk.1.2, ⟨hk.1.1.1.1.1.1, ⟨hk.1.1.1.1.1.2, ⟨hk.1.1.1.1.2, hk.2⟩⟩⟩⟩⟩⟩)⟩, ⟨by exact Kd.V_mono (pV HO238.out) (fun _ hk => ⟨hk.1.1.1.2, ⟨hk.1.1.2, ⟨hk.1.2, ⟨hk.1.1.1.1.1.1, ⟨hk.1.1.1.1.1.2, ⟨hk.1.1.1.1.2, hk.2⟩⟩⟩⟩⟩⟩)⟩, ⟨(pR HO244.out)⟩, ⟨(pR HO247.out)⟩, ⟨(pR HO250.out)⟩, ⟨pk BK207.out⟩, ⟨pk BK208.out⟩, ⟨pk BK240.out⟩, ⟨pk BK252.out⟩, ⟨pB HB.out⟩⟩
   ·
    replace c52 := Bool.eq_false_iff.mpr c52
    subst c52
    have H1 : (penelopelaw07_NodeCuts.j0 k true t209 t210 t213 t216) = some r := by rw [if_neg (show ¬ (false = true) by decide)] at H; exact H
    clear H
    have H := H1
    clear H1
    have H' := am H
    clear H
    have hnb63 := NB240_207.out
    have hnc63 := NB207_240.out
    have hnb64 := NB240_208.out
    have hnc64 := NB208_240.out
    have hnb65 := NB240_252.out
    have hnc65 := NB252_240.out
    obtain ⟨hcz66_0, hcz66_1, hcz66_2, hcz66_3⟩ := c4 BK240.out
    obtain ⟨hfz66_0, hfz66_1, hfz66_2, hfz66_3⟩ := z4 BK240.out
    have hnb67 := NB252_207.out
    have hnc67 := NB207_252.out
    have hnb68 := NB252_208.out
    have hnc68 := NB208_252.out
    obtain ⟨hcz69_0, hcz69_1, hcz69_2, hcz69_3⟩ := c4 BK252.out
    obtain ⟨hfz69_0, hfz69_1, hfz69_2, hfz69_3⟩ := z4 BK252.out
    go_wp2_with (first | (go_at_call 23; (with_reducible refine (peneloperef07_Like.calls k t229 _ _ t230 _ _ t233 _ _ t236 t241 _ _ t242 _ _ t245 _ _ t248 false _ ?side1 ?side2 ?side3 ?side4 ?side5 ?side6 ?side7 ?side8 ?side9 ?side10 ?side11 ?side12 A51.out).mono ?_); (case side1 => exact (Kd.V_reads' (pV HO232.out)).2.2); (case side2 => exact (Kd.V_reads' HO232.out).2.1); (case side3 => exact (Kd.V_reads' (pV HO235.out)).2.2); (case side4 => exact (Kd.V_reads' HO235.out).2.1); (case side5 => exact (Kd.V_reads' (pV HO238.out)).2.2); (case side6 => exact (Kd.V_reads' HO238.out).2.1); (case side7 => exact (Kd.R_reads' ((Kd.R_mono (pR (Kd.R_types HO244.out BK252.out (by decide))) (fun _ h_ => h_.1)))).2.2); (case side8 => exact (Kd.R_reads' HO244.out).2.1); (case side9 => exact (Kd.R_reads' ((Kd.R_mono (pR (Kd.R_types HO247.out BK252.out (by decide))) (fun _ h_ => h_.1)))).2.2); (case side10 => exact (Kd.R_reads' HO247.out).2.1); (case side11 => exact (Kd.R_reads' ((Kd.R_mono (pR (Kd.R_types HO250.out BK252.out (by decide))) (fun _ h_ => h_.1)))).2.2); (case side12 => exact (Kd.R_reads' HO250.out).2.1); rintro e w70 ⟨rfl, hb⟩; replace HO212 := am (Kd.V_below (pV HO212.out) hb); replace HO215 := am (Kd.V_below (pV HO215.out) hb); replace HO218 := am (Kd.V_below (pV HO218.out) hb); replace HO222 := am (Kd.V_below (pV HO222.out) hb); replace HO225 := am (Kd.V_below (pV HO225.out) hb); replace HO228 := am (Kd.V_below (pV HO228.out) hb); replace HO232 := am (Kd.V_below (pV HO232.out) hb); replace HO235 := am (Kd.V_below (pV HO235.out) hb); replace HO238 := am (Kd.V_below (pV HO238.out) hb); replace HO244 := am (Kd.R_below ((Kd.R_mono (pR (Kd.R_types HO244.out BK252.out (by decide))) (fun _ h_ => h_.1))) hb); replace HO247 := am (Kd.R_below ((Kd.R_mono (pR (Kd.R_types HO247.out BK252.out (by decide))) (fun _ h_ => h_.1))) hb); replace HO250 := am (Kd.R_below ((Kd.R_mono (pR (Kd.R_types HO250.out BK252.out (by decide))) (fun _ h_ => h_.1))) hb); replace BK207 := am (blk_below (pk BK207.out) hb); replace BK208 := am (blk_below (pk BK208.out) hb); replace BK240 := am (blk_below (pk BK240.out) hb); replace BK252 := am (blk_below (g := gb252) (o := .cells #[.bool t241, .slice Ao47 t242.length co47, .slice Ao48 t245.length co48, .slice Ao49 t248.length co49] 25 (0, 0)) (pP BK252.out) hb); replace HB := am (below_step (pB HB.out) hb); (try clear hb); (try clear hb2); (try clear hk); (try clear hi)))
    go_meet
    case rel => exact ⟨_, (true), (by first | rfl | (simp; done) | (simp [*]; done)), H', ⟨by first | omega | exact Nat.le_refl _⟩, ⟨by exact Kd.V_mono (pV HO212.out) (fun _ hk => ⟨hk.1.1.1.2, ⟨hk.1.1.2, ⟨hk.1.2, ⟨hk.1.1.1.1.1.1, ⟨hk.1.1.1.1.1.2, ⟨hk.1.1.1.1.2, hk.2⟩⟩⟩⟩⟩⟩)⟩, ⟨by exact Kd.V_mono (pV HO215.out) (fun _ hk => ⟨hk.1.1.1.2, ⟨hk.1.1.2, ⟨hk.1.2, ⟨hk.1.1.1.1.1.1, ⟨hk.1.1.1.1.1.2, ⟨hk.1.1.1.1.2, hk.2⟩⟩⟩⟩⟩⟩)⟩, ⟨by exact Kd.V_mono (pV HO218.out) (fun _ hk => ⟨hk.1.1.1.2, ⟨hk.1.1.2, ⟨hk.1.2, ⟨hk.1.1.1.1.1.1, ⟨hk.1.1.1.1.1.2, ⟨hk.1.1.1.1.2, hk.2⟩⟩⟩⟩⟩⟩)⟩, ⟨by exact Kd.V_mono (pV HO222.out) (fun _ hk => ⟨hk.1.1.1.2, ⟨hk.1.1.2, ⟨hk.1.2, ⟨hk.1.1.1.1.1.1, ⟨hk.1.1.1.1.1.2, ⟨hk.1.1.1.1.2, hk.2⟩⟩⟩⟩⟩⟩)⟩, ⟨by exact Kd.V_mono (pV HO225.out) (fun _ hk => ⟨hk.1.1.1.2, ⟨hk.1.1.2, ⟨hk.1.2, ⟨hk.1.1.1.1.1.1, ⟨hk.1.1.1.1.1.2, ⟨hk.1.1.1.1.2, hk.2⟩⟩⟩⟩⟩⟩)⟩, ⟨by exact Kd.V_mono (pV HO228.out) (fun _ hk => ⟨hk.1.1.1.2, ⟨hk.1.1.2, ⟨hk.1.2, ⟨hk.1.1.1.1.1.1, ⟨hk.1.1.1.1.1.2, ⟨hk.1.1.1.1.2, hk.2⟩⟩⟩⟩⟩⟩)⟩, ⟨by exact Kd.V_mono (pV HO232.out) (fun _ hk => ⟨hk.1.1.1.2, ⟨hk.1.1.2, ⟨hk.1.2, ⟨hk.1.1.1.1.1.1, ⟨hk.1.1.1.1.1.2, ⟨hk.1.1.1.1.2, hk.2⟩⟩⟩⟩⟩⟩)⟩, ⟨by exact Kd.V_mono (pV HO235.out) (fun _ hk => ⟨hk.1.1.1.2, ⟨hk.1.1.2, ⟨hk.1.2, ⟨hk.1.1.1.1.1.1, ⟨hk.1.1.1.1.1.2, ⟨hk.1.1.1.1.2, hk.2⟩⟩⟩⟩⟩⟩)⟩, ⟨by exact Kd.V_mono (pV HO238.out) (fun _ hk => ⟨hk.1.1.1.2, ⟨hk.1.1.2, ⟨hk.1.2, ⟨hk.1.1.1.1.1.1, ⟨hk.1.1.1.1.1.2, ⟨hk.1.1.1.1.2, hk.2⟩⟩⟩⟩⟩⟩)⟩, ⟨(pR HO244.out)⟩, ⟨(pR HO247.out)⟩, ⟨(pR HO250.out)⟩, ⟨pk BK207.out⟩, ⟨pk BK208.out⟩, ⟨pk BK240.out⟩, ⟨pk BK252.out⟩, ⟨pB HB.out⟩⟩
  ·
   rw [if_neg c50] at H
   have c50b0 : (t239 == t251) = false := beq_eq_false_iff_ne.mpr c50
   have c50b1 : (t239 != t251) = true := bne_iff_ne.mpr c50
   (first | rw [c50b0] | (simp only [i64_w, i32_w]; rw [c50b0]) | skip)
   have H' := am H
   clear H
   go_wp2
   go_meet
   case rel => exact ⟨_, (true), (by first | rfl | (simp; done) | (simp [*]; done)), H', ⟨by first | omega | exact Nat.le_refl _⟩, ⟨by exact Kd.V_mono (pV HO212.out) (fun _ hk => ⟨hk.1.1.1.2, ⟨hk.1.1.2, ⟨hk.1.2, ⟨hk.1.1.1.1.1.1, ⟨hk.1.1.1.1.1.2, ⟨hk.1.1.1.1.2, hk.2⟩⟩⟩⟩⟩⟩)⟩, ⟨by exact Kd.V_mono (pV HO215.out) (fun _ hk => ⟨hk.1.1.1.2, ⟨hk.1.1.2, ⟨hk.1.2, ⟨hk.1.1.1.1.1.1, ⟨hk.1.1.1.1.1.2, ⟨hk.1.1.1.1.2, hk.2⟩⟩⟩⟩⟩⟩)⟩, ⟨by exact Kd.V_mono (pV HO218.out) (fun _ hk => ⟨hk.1.1.1.2, ⟨hk.1.1.2, ⟨hk.1.2, ⟨hk.1.1.1.1.1.1, ⟨hk.1.1.1.1.1.2, ⟨hk.1.1.1.1.2, hk.2⟩⟩⟩⟩⟩⟩)⟩, ⟨by exact Kd.V_mono (pV HO222.out) (fun _ hk => ⟨hk.1.1.1.2, ⟨hk.1.1.2, ⟨hk.1.2, ⟨hk.1.1.1.1.1.1, ⟨hk.1.1.1.1.1.2, ⟨hk.1.1.1.1.2, hk.2⟩⟩⟩⟩⟩⟩)⟩, ⟨by exact Kd.V_mono (pV HO225.out) (fun _ hk => ⟨hk.1.1.1.2, ⟨hk.1.1.2, ⟨hk.1.2, ⟨hk.1.1.1.1.1.1, ⟨hk.1.1.1.1.1.2, ⟨hk.1.1.1.1.2, hk.2⟩⟩⟩⟩⟩⟩)⟩, ⟨by exact Kd.V_mono (pV HO228.out) (fun _ hk => ⟨hk.1.1.1.2, ⟨hk.1.1.2, ⟨hk.1.2, ⟨hk.1.1.1.1.1.1, ⟨hk.1.1.1.1.1.2, ⟨hk.1.1.1.1.2, hk.2⟩⟩⟩⟩⟩⟩)⟩, ⟨by exact Kd.V_mono (pV HO232.out) (fun _ hk => ⟨hk.1.1.1.2, ⟨hk.1.1.2, ⟨hk.1.2, ⟨hk.1.1.1.1.1.1, ⟨hk.1.1.1.1.1.2, ⟨hk.1.1.1.1.2, hk.2⟩⟩⟩⟩⟩⟩)⟩, ⟨by exact Kd.V_mono (pV HO235.out) (fun _ hk => ⟨hk.1.1.1.2, ⟨hk.1.1.2, ⟨hk.1.2, ⟨hk.1.1.1.1.1.1, ⟨hk.1.1.1.1.1.2, ⟨hk.1.1.1.1.2, hk.2⟩⟩⟩⟩⟩⟩)⟩, ⟨by exact Kd.V_mono (pV HO238.out) (fun _ hk => ⟨hk.1.1.1.2, ⟨hk.1.1.2, ⟨hk.1.2, ⟨hk.1.1.1.1.1.1, ⟨hk.1.1.1.1.1.2, ⟨hk.1.1.1.1.2, hk.2⟩⟩⟩⟩⟩⟩)⟩, ⟨by exact Kd.R_mono (pR (Kd.R_types HO244.out BK252.out (by decide))) (fun _ hk => hk.1)⟩, ⟨by exact Kd.R_mono (pR (Kd.R_types HO247.out BK252.out (by decide))) (fun _ hk => hk.1)⟩, ⟨by exact Kd.R_mono (pR (Kd.R_types HO250.out BK252.out (by decide))) (fun _ hk => trivial)⟩, ⟨pk BK207.out⟩, ⟨pk BK208.out⟩, ⟨pk BK240.out⟩, ⟨pP BK252.out⟩, ⟨pB HB.out⟩⟩
 case rest =>
  clear HC8
  try clear c1
  try clear c2
  try clear p2
  try clear c3
  try clear c4
  try clear c5
  try clear c6
  try clear c10
  try clear c21
  try clear c22
  try clear c28
  try clear c33
  try clear c34
  try clear c43
  try clear c44
  try clear c45
  try clear c50
  try clear c50b0
  try clear c50b1
  try clear c52
  try clear c54
  try clear c55
  try clear c56
  try clear c58
  try clear c59
  try clear c63
  try clear c64
  try clear c65
  try clear c67
  try clear c68
  try clear hcz29_0
  try clear hcz29_1
  try clear hcz29_2
  try clear hcz29_3
  try clear hcz30_0
  try clear hcz30_1
  try clear hcz30_2
  try clear hcz30_3
  try clear hcz35_0
  try clear hcz35_1
  try clear hcz35_2
  try clear hcz35_3
  try clear hcz39_0
  try clear hcz39_1
  try clear hcz39_2
  try clear hcz39_3
  try clear hcz40_0
  try clear hcz40_1
  try clear hcz40_2
  try clear hcz40_3
  try clear hcz46_0
  try clear hcz46_1
  try clear hcz46_2
  try clear hcz46_3
  try clear hcz57_0
  try clear hcz57_1
  try clear hcz57_2
  try clear hcz57_3
  try clear hcz60_0
  try clear hcz60_1
  try clear hcz60_2
  try clear hcz60_3
  try clear hcz66_0
  try clear hcz66_1
  try clear hcz66_2
  try clear hcz66_3
  try clear hcz69_0
  try clear hcz69_1
  try clear hcz69_2
  try clear hcz69_3
  try clear hfz29_0
  try clear hfz29_1
  try clear hfz29_2
  try clear hfz29_3
  try clear hfz30_0
  try clear hfz30_1
  try clear hfz30_2
  try clear hfz30_3
  try clear hfz35_0
  try clear hfz35_1
  try clear hfz35_2
  try clear hfz35_3
  try clear hfz39_0
  try clear hfz39_1
  try clear hfz39_2
  try clear hfz39_3
  try clear hfz40_0
  try clear hfz40_1
  try clear hfz40_2
  try clear hfz40_3
  try clear hfz46_0
  try clear hfz46_1
  try clear hfz46_2
  try clear hfz46_3
  try clear hfz57_0
  try clear hfz57_1
  try clear hfz57_2
  try clear hfz57_3
  try clear hfz60_0
  try clear hfz60_1
  try clear hfz60_2
  try clear hfz60_3
  try clear hfz66_0
  try clear hfz66_1
  try clear hfz66_2
  try clear hfz66_3
  try clear hfz69_0
  try clear hfz69_1
  try clear hfz69_2
  try clear hfz69_3
  obtain ⟨kq, x48_7, rfl, HA, HJ7, HO_208001, HO_208002, HO_208003, HO_209001, HO_209002, HO_209003, HO_241001, HO_241002, HO_241003, HO_253001, HO_253002, HO_253003, BK207, BK208, BK240, BK252, HB⟩ := hcut
  cases kq with
  | zero => exact absurd HA.out (by simp [penelopelaw07_NodeCuts.j0])
  | succ kj7 =>
   have H := HA.out
   clear HA
   simp only [penelopelaw07_NodeCuts.j0] at H
   by_cases c71 : x48_7 = true
   ·
    subst c71
    have H1 : (none) = some r := by rw [if_pos rfl] at H; exact H
    clear H
    have H := H1
    clear H1
    exact absurd H (by simp)
   ·
    replace c71 := Bool.eq_false_iff.mpr c71
    subst c71
    have H1 : ((node_Cut.f kj7 t209 t210 t213 t216).bind fun bt255 => ((peneloperef07_Stands.f kj7 t209 t210 t213 t216).bind fun t279 => (if t279 = true then (penelopelaw07_NodeCuts.j1 kj7 bt255.2.2.2.2.1 bt255.2.2.2.2.2.2.2.2.2 ((t210.length : Int) != 9) t209 t210 t213 t216 bt255.1 bt255.2.1 bt255.2.2.1 bt255.2.2.2.1 bt255.2.2.2.2.2.1 bt255.2.2.2.2.2.2.1 bt255.2.2.2.2.2.2.2.1 bt255.2.2.2.2.2.2.2.2.1) else (penelopelaw07_NodeCuts.j1 kj7 bt255.2.2.2.2.1 bt255.2.2.2.2.2.2.2.2.2 true t209 t210 t213 t216 bt255.1 bt255.2.1 bt255.2.2.1 bt255.2.2.2.1 bt255.2.2.2.2.2.1 bt255.2.2.2.2.2.2.1 bt255.2.2.2.2.2.2.2.1 bt255.2.2.2.2.2.2.2.2.1)))) = some r := by rw [if_neg (show ¬ (false = true) by decide)] at H; exact H
    clear H
    have H := H1
    clear H1
    replace H := Option.bind_eq_some_iff.mp H
    obtain ⟨⟨t255, t256, t259, t262, t265, t266, t267, t270, t273, t276⟩, A720, H⟩ := H
    replace H : ((peneloperef07_Stands.f kj7 t209 t210 t213 t216).bind fun t279 => (if t279 = true then (penelopelaw07_NodeCuts.j1 kj7 t265 t276 ((t210.length : Int) != 9) t209 t210 t213 t216 t255 t256 t259 t262 t266 t267 t270 t273) else (penelopelaw07_NodeCuts.j1 kj7 t265 t276 true t209 t210 t213 t216 t255 t256 t259 t262 t266 t267 t270 t273))) = some r := H
    have A72 := am A720
    clear A720
    have HC73 := am H
    clear H
    have hnb74 := NB207_208.out
    have hnc74 := NB208_207.out
    have hnb75 := NB207_240.out
    have hnc75 := NB240_207.out
    have hnb76 := NB207_252.out
    have hnc76 := NB252_207.out
    obtain ⟨hcz77_0, hcz77_1, hcz77_2, hcz77_3⟩ := c4 BK207.out
    obtain ⟨hfz77_0, hfz77_1, hfz77_2, hfz77_3⟩ := z4 BK207.out
    go_upto_region 7 with (first | ((with_reducible refine gate_callee (f := 24) rfl ?_); refine goesL_ (some 51) rfl rfl Try.func24 (by kernel_rfl) rfl #[.agg #[.bool t209, .slice Ao15 t210.length co15, .slice Ao17 t213.length co17, .slice Ao19 t216.length co19]] rfl (by (try simp only [List.map_toArray, List.map_cons, List.map_nil]); first | done | rfl | (simp only [List.length_drop, List.length_take]; rfl)) ?_; (with_reducible refine (node_Cut.calls kj7 t209 _ _ t210 _ _ t213 _ _ t216 t255 t256 t259 t262 t265 t266 t267 t270 t273 t276 _ ?side1 ?side2 ?side3 ?side4 ?side5 ?side6 A72.out).mono ?_); (case side1 => exact pC ((Kd.V_reads' HO_208001.out).2.2)); (case side2 => exact (Kd.V_reads' HO_208001.out).2.1); (case side3 => exact pC ((Kd.V_reads' HO_208002.out).2.2)); (case side4 => exact (Kd.V_reads' HO_208002.out).2.1); (case side5 => exact pC ((Kd.V_reads' HO_208003.out).2.2)); (case side6 => exact (Kd.V_reads' HO_208003.out).2.1); rintro e w78 ⟨v257, v260, v263, v268, v271, v274, rfl, ho0, ho1, ho2, ho3, ho4, ho5, hb⟩; refine ⟨_, rfl, ?_⟩; replace HO_208001 := am (Kd.V_below (pV HO_208001.out) hb); replace HO_208002 := am (Kd.V_below (pV HO_208002.out) hb); replace HO_208003 := am (Kd.V_below (pV HO_208003.out) hb); replace HO_209001 := am (Kd.V_below (pV HO_209001.out) hb); replace HO_209002 := am (Kd.V_below (pV HO_209002.out) hb); replace HO_209003 := am (Kd.V_below (pV HO_209003.out) hb); replace HO_241001 := am (Kd.V_below (pV HO_241001.out) hb); replace HO_241002 := am (Kd.V_below (pV HO_241002.out) hb); replace HO_241003 := am (Kd.V_below (pV HO_241003.out) hb); have HO258 := am (Kd.V_lower (Kd.V_mono (ok' := fun k_ => some k_ ≠ (.slice Ao47 t242.length co47 : Value).ownBlock ∧ some k_ ≠ (.slice Ao48 t245.length co48 : Value).ownBlock ∧ some k_ ≠ (.slice Ao49 t248.length co49 : Value).ownBlock ∧ k_ ≠ gb207 ∧ k_ ≠ gb208 ∧ k_ ≠ gb240 ∧ k_ ≠ gb252) ho0 (fun k_ hk_ => ⟨(Kd.fresh' (Kd.R_lt (pR HO_253001.out)) k_ hk_), (Kd.fresh' (Kd.R_lt (pR HO_253002.out)) k_ hk_), (Kd.fresh' (Kd.R_lt (pR HO_253003.out)) k_ hk_), (Kd.freshB (pk BK207.out) k_ hk_), (Kd.freshB (pk BK208.out) k_ hk_), (Kd.freshB (pk BK240.out) k_ hk_), (Kd.freshB (pk BK252.out) k_ hk_)⟩)) (below_size (pB HB.out))); have HO261 := am (Kd.V_lower (Kd.V_mono (ok' := fun k_ => some k_ ≠ (.slice Ao47 t242.length co47 : Value).ownBlock ∧ some k_ ≠ (.slice Ao48 t245.length co48 : Value).ownBlock ∧ some k_ ≠ (.slice Ao49 t248.length co49 : Value).ownBlock ∧ k_ ≠ gb207 ∧ k_ ≠ gb208 ∧ k_ ≠ gb240 ∧ k_ ≠ gb252) ho1 (fun k_ hk_ => ⟨(Kd.fresh' (Kd.R_lt (pR HO_253001.out)) k_ hk_), (Kd.fresh' (Kd.R_lt (pR HO_253002.out)) k_ hk_), (Kd.fresh' (Kd.R_lt (pR HO_253003.out)) k_ hk_), (Kd.freshB (pk BK207.out) k_ hk_), (Kd.freshB (pk BK208.out) k_ hk_), (Kd.freshB (pk BK240.out) k_ hk_), (Kd.freshB (pk BK252.out) k_ hk_)⟩)) (below_size (pB HB.out))); have HO264 := am (Kd.V_lower (Kd.V_mono (ok' := fun k_ => some k_ ≠ (.slice Ao47 t242.length co47 : Value).ownBlock ∧ some k_ ≠ (.slice Ao48 t245.length co48 : Value).ownBlock ∧ some k_ ≠ (.slice Ao49 t248.length co49 : Value).ownBlock ∧ k_ ≠ gb207 ∧ k_ ≠ gb208 ∧ k_ ≠ gb240 ∧ k_ ≠ gb252) ho2 (fun k_ hk_ => ⟨(Kd.fresh' (Kd.R_lt (pR HO_253001.out)) k_ hk_), (Kd.fresh' (Kd.R_lt (pR HO_253002.out)) k_ hk_), (Kd.fresh' (Kd.R_lt (pR HO_253003.out)) k_ hk_), (Kd.freshB (pk BK207.out) k_ hk_), (Kd.freshB (pk BK208.out) k_ hk_), (Kd.freshB (pk BK240.out) k_ hk_), (Kd.freshB (pk BK252.out) k_ hk_)⟩)) (below_size (pB HB.out))); have HO269 := am (Kd.V_lower (Kd.V_mono (ok' := fun k_ => some k_ ≠ (.slice Ao47 t242.length co47 : Value).ownBlock ∧ some k_ ≠ (.slice Ao48 t245.length co48 : Value).ownBlock ∧ some k_ ≠ (.slice Ao49 t248.length co49 : Value).ownBlock ∧ k_ ≠ gb207 ∧ k_ ≠ gb208 ∧ k_ ≠ gb240 ∧ k_ ≠ gb252) ho3 (fun k_ hk_ => ⟨(Kd.fresh' (Kd.R_lt (pR HO_253001.out)) k_ hk_), (Kd.fresh' (Kd.R_lt (pR HO_253002.out)) k_ hk_), (Kd.fresh' (Kd.R_lt (pR HO_253003.out)) k_ hk_), (Kd.freshB (pk BK207.out) k_ hk_), (Kd.freshB (pk BK208.out) k_ hk_), (Kd.freshB (pk BK240.out) k_ hk_), (Kd.freshB (pk BK252.out) k_ hk_)⟩)) (below_size (pB HB.out))); have HO272 := am (Kd.V_lower (Kd.V_mono (ok' := fun k_ => some k_ ≠ (.slice Ao47 t242.length co47 : Value).ownBlock ∧ some k_ ≠ (.slice Ao48 t245.length co48 : Value).ownBlock ∧ some k_ ≠ (.slice Ao49 t248.length co49 : Value).ownBlock ∧ k_ ≠ gb207 ∧ k_ ≠ gb208 ∧ k_ ≠ gb240 ∧ k_ ≠ gb252) ho4 (fun k_ hk_ => ⟨(Kd.fresh' (Kd.R_lt (pR HO_253001.out)) k_ hk_), (Kd.fresh' (Kd.R_lt (pR HO_253002.out)) k_ hk_), (Kd.fresh' (Kd.R_lt (pR HO_253003.out)) k_ hk_), (Kd.freshB (pk BK207.out) k_ hk_), (Kd.freshB (pk BK208.out) k_ hk_), (Kd.freshB (pk BK240.out) k_ hk_), (Kd.freshB (pk BK252.out) k_ hk_)⟩)) (below_size (pB HB.out))); have HO275 := am (Kd.V_lower (Kd.V_mono (ok' := fun k_ => some k_ ≠ (.slice Ao47 t242.length co47 : Value).ownBlock ∧ some k_ ≠ (.slice Ao48 t245.length co48 : Value).ownBlock ∧ some k_ ≠ (.slice Ao49 t248.length co49 : Value).ownBlock ∧ k_ ≠ gb207 ∧ k_ ≠ gb208 ∧ k_ ≠ gb240 ∧ k_ ≠ gb252) ho5 (fun k_ hk_ => ⟨(Kd.fresh' (Kd.R_lt (pR HO_253001.out)) k_ hk_), (Kd.fresh' (Kd.R_lt (pR HO_253002.out)) k_ hk_), (Kd.fresh' (Kd.R_lt (pR HO_253003.out)) k_ hk_), (Kd.freshB (pk BK207.out) k_ hk_), (Kd.freshB (pk BK208.out) k_ hk_), (Kd.freshB (pk BK240.out) k_ hk_), (Kd.freshB (pk BK252.out) k_ hk_)⟩)) (below_size (pB HB.out))); replace HO_253001 := am (Kd.R_below (pR HO_253001.out) hb); replace HO_253002 := am (Kd.R_below (pR HO_253002.out) hb); replace HO_253003 := am (Kd.R_below (pR HO_253003.out) hb); replace BK207 := am (blk_below (pk BK207.out) hb); replace BK208 := am (blk_below (pk BK208.out) hb); replace BK240 := am (blk_below (pk BK240.out) hb); replace BK252 := am (blk_below (pk BK252.out) hb); replace HB := am (below_step (pB HB.out) hb); (try clear hb); (try clear hb2); (try clear hk); (try clear hi); (try clear ho0); (try clear ho1); (try clear ho2); (try clear ho3); (try clear ho4); (try clear ho5)) | ((with_reducible refine gate_dst (N := 11) rfl ?_); (try (refine gate_guard (by rfl) ?_; dsimp only)); refine bx 11 #[.bool false, .slice none 0 0, .slice none 0 0, .slice none 0 0] 25 ?_; intro gb277 hg w79 hbox hb; replace HO_208001 := am (Kd.V_below (Kd.V_elderB (pV HO_208001.out) gb277 (Nat.le_of_eq hg.symm)) hb); replace HO_208002 := am (Kd.V_below (Kd.V_elderB (pV HO_208002.out) gb277 (Nat.le_of_eq hg.symm)) hb); replace HO_208003 := am (Kd.V_below (Kd.V_elderB (pV HO_208003.out) gb277 (Nat.le_of_eq hg.symm)) hb); replace HO_209001 := am (Kd.V_below (Kd.V_elderB (pV HO_209001.out) gb277 (Nat.le_of_eq hg.symm)) hb); replace HO_209002 := am (Kd.V_below (Kd.V_elderB (pV HO_209002.out) gb277 (Nat.le_of_eq hg.symm)) hb); replace HO_209003 := am (Kd.V_below (Kd.V_elderB (pV HO_209003.out) gb277 (Nat.le_of_eq hg.symm)) hb); replace HO_241001 := am (Kd.V_below (Kd.V_elderB (pV HO_241001.out) gb277 (Nat.le_of_eq hg.symm)) hb); replace HO_241002 := am (Kd.V_below (Kd.V_elderB (pV HO_241002.out) gb277 (Nat.le_of_eq hg.symm)) hb); replace HO_241003 := am (Kd.V_below (Kd.V_elderB (pV HO_241003.out) gb277 (Nat.le_of_eq hg.symm)) hb); replace HO_253001 := am (Kd.R_below (pR HO_253001.out) hb); replace HO_253002 := am (Kd.R_below (pR HO_253002.out) hb); replace HO_253003 := am (Kd.R_below (pR HO_253003.out) hb); replace HO258 := am (Kd.V_below (Kd.V_elderB (pV HO258.out) gb277 (Nat.le_of_eq hg.symm)) hb); replace HO261 := am (Kd.V_below (Kd.V_elderB (pV HO261.out) gb277 (Nat.le_of_eq hg.symm)) hb); replace HO264 := am (Kd.V_below (Kd.V_elderB (pV HO264.out) gb277 (Nat.le_of_eq hg.symm)) hb); replace HO269 := am (Kd.V_below (Kd.V_elderB (pV HO269.out) gb277 (Nat.le_of_eq hg.symm)) hb); replace HO272 := am (Kd.V_below (Kd.V_elderB (pV HO272.out) gb277 (Nat.le_of_eq hg.symm)) hb); replace HO275 := am (Kd.V_below (Kd.V_elderB (pV HO275.out) gb277 (Nat.le_of_eq hg.symm)) hb); have BK277 := am (hbox); have GW277 := am (gs hg (pB HB.out)); have GE277 := am (gs hg (pB HB.out)); replace HB := am (below_step (pB HB.out) hb); have NB207_277 := am (nl hg (pk BK207.out)); have NB277_207 := am (ng hg (pk BK207.out)); replace BK207 := am (blk_below (pk BK207.out) hb); have NB208_277 := am (nl hg (pk BK208.out)); have NB277_208 := am (ng hg (pk BK208.out)); replace BK208 := am (blk_below (pk BK208.out) hb); have NB240_277 := am (nl hg (pk BK240.out)); have NB277_240 := am (ng hg (pk BK240.out)); replace BK240 := am (blk_below (pk BK240.out) hb); have NB252_277 := am (nl hg (pk BK252.out)); have NB277_252 := am (ng hg (pk BK252.out)); replace BK252 := am (blk_below (pk BK252.out) hb); clear hb hbox hg) | ((with_reducible refine gate_dst (N := 13) rfl ?_); (try (refine gate_guard (by rfl) ?_; dsimp only)); refine bx 13 #[.bool false, .slice none 0 0, .slice none 0 0, .slice none 0 0] 25 ?_; intro gb278 hg w80 hbox hb; replace HO_208001 := am (Kd.V_below (Kd.V_elderB (pV HO_208001.out) gb278 (Nat.le_of_eq hg.symm)) hb); replace HO_208002 := am (Kd.V_below (Kd.V_elderB (pV HO_208002.out) gb278 (Nat.le_of_eq hg.symm)) hb); replace HO_208003 := am (Kd.V_below (Kd.V_elderB (pV HO_208003.out) gb278 (Nat.le_of_eq hg.symm)) hb); replace HO_209001 := am (Kd.V_below (Kd.V_elderB (pV HO_209001.out) gb278 (Nat.le_of_eq hg.symm)) hb); replace HO_209002 := am (Kd.V_below (Kd.V_elderB (pV HO_209002.out) gb278 (Nat.le_of_eq hg.symm)) hb); replace HO_209003 := am (Kd.V_below (Kd.V_elderB (pV HO_209003.out) gb278 (Nat.le_of_eq hg.symm)) hb); replace HO_241001 := am (Kd.V_below (Kd.V_elderB (pV HO_241001.out) gb278 (Nat.le_of_eq hg.symm)) hb); replace HO_241002 := am (Kd.V_below (Kd.V_elderB (pV HO_241002.out) gb278 (Nat.le_of_eq hg.symm)) hb); replace HO_241003 := am (Kd.V_below (Kd.V_elderB (pV HO_241003.out) gb278 (Nat.le_of_eq hg.symm)) hb); replace HO_253001 := am (Kd.R_below (pR HO_253001.out) hb); replace HO_253002 := am (Kd.R_below (pR HO_253002.out) hb); replace HO_253003 := am (Kd.R_below (pR HO_253003.out) hb); replace HO258 := am (Kd.V_below (Kd.V_elderB (pV HO258.out) gb278 (Nat.le_of_eq hg.symm)) hb); replace HO261 := am (Kd.V_below (Kd.V_elderB (pV HO261.out) gb278 (Nat.le_of_eq hg.symm)) hb); replace HO264 := am (Kd.V_below (Kd.V_elderB (pV HO264.out) gb278 (Nat.le_of_eq hg.symm)) hb); replace HO269 := am (Kd.V_below (Kd.V_elderB (pV HO269.out) gb278 (Nat.le_of_eq hg.symm)) hb); replace HO272 := am (Kd.V_below (Kd.V_elderB (pV HO272.out) gb278 (Nat.le_of_eq hg.symm)) hb); replace HO275 := am (Kd.V_below (Kd.V_elderB (pV HO275.out) gb278 (Nat.le_of_eq hg.symm)) hb); have BK278 := am (hbox); have GW278 := am (gs hg (pB HB.out)); have GE278 := am (gs hg (pB HB.out)); replace HB := am (below_step (pB HB.out) hb); have NB207_278 := am (nl hg (pk BK207.out)); have NB278_207 := am (ng hg (pk BK207.out)); replace BK207 := am (blk_below (pk BK207.out) hb); have NB208_278 := am (nl hg (pk BK208.out)); have NB278_208 := am (ng hg (pk BK208.out)); replace BK208 := am (blk_below (pk BK208.out) hb); have NB240_278 := am (nl hg (pk BK240.out)); have NB278_240 := am (ng hg (pk BK240.out)); replace BK240 := am (blk_below (pk BK240.out) hb); have NB252_278 := am (nl hg (pk BK252.out)); have NB278_252 := am (ng hg (pk BK252.out)); replace BK252 := am (blk_below (pk BK252.out) hb); have NB277_278 := am (nl hg (pk BK277.out)); have NB278_277 := am (ng hg (pk BK277.out)); replace BK277 := am (blk_below (pk BK277.out) hb); clear hb hbox hg; have hnb81 := NB277_207.out; have hnc81 := NB207_277.out; have hnb82 := NB277_208.out; have hnc82 := NB208_277.out; have hnb83 := NB277_240.out; have hnc83 := NB240_277.out; have hnb84 := NB277_252.out; have hnc84 := NB252_277.out; have hnb85 := NB277_278.out; have hnc85 := NB278_277.out; obtain ⟨hcz86_0, hcz86_1, hcz86_2, hcz86_3⟩ := c4 BK277.out; obtain ⟨hfz86_0, hfz86_1, hfz86_2, hfz86_3⟩ := z4 BK277.out; obtain ⟨Ao87, co87, eo87⟩ := Kd.V_slice HO258.out; subst eo87; obtain ⟨Ao88, co88, eo88⟩ := Kd.V_slice HO261.out; subst eo88; obtain ⟨Ao89, co89, eo89⟩ := Kd.V_slice HO264.out; subst eo89; have hnb90 := NB278_207.out; have hnc90 := NB207_278.out; have hnb91 := NB278_208.out; have hnc91 := NB208_278.out; have hnb92 := NB278_240.out; have hnc92 := NB240_278.out; have hnb93 := NB278_252.out; have hnc93 := NB252_278.out; obtain ⟨hcz94_0, hcz94_1, hcz94_2, hcz94_3⟩ := c4 BK278.out; obtain ⟨hfz94_0, hfz94_1, hfz94_2, hfz94_3⟩ := z4 BK278.out; obtain ⟨Ao95, co95, eo95⟩ := Kd.V_slice HO269.out; subst eo95; obtain ⟨Ao96, co96, eo96⟩ := Kd.V_slice HO272.out; subst eo96; obtain ⟨Ao97, co97, eo97⟩ := Kd.V_slice HO275.out; subst eo97))
    (try simp only [Act.put, List.setIfInBounds_toArray, List.set_cons_zero, List.set_cons_succ])
    go_cut [64] (fun v64 wc => ∃ (kq : Nat) (x64_72 : Bool), v64 = .bool x64_72 ∧ Aside0 (penelopelaw07_NodeCuts.j1 kq t265 t276 x64_72 t209 t210 t213 t216 t255 t256 t259 t262 t266 t267 t270 t273 = some r) ∧ Aside0 (kq ≤ kj7) ∧ Aside0 (Kd.V Kd.string 9 wc w.heap.size (fun k_ => some k_ ≠ ((.slice Ao47 t242.length co47) : Value).ownBlock ∧ some k_ ≠ ((.slice Ao48 t245.length co48) : Value).ownBlock ∧ some k_ ≠ ((.slice Ao49 t248.length co49) : Value).ownBlock ∧ k_ ≠ gb207 ∧ k_ ≠ gb208 ∧ k_ ≠ gb240 ∧ k_ ≠ gb252 ∧ k_ ≠ gb277 ∧ k_ ≠ gb278) (.slice Ao15 t210.length co15) t210) ∧ Aside0 (Kd.V Kd.string 9 wc w.heap.size (fun k_ => some k_ ≠ ((.slice Ao47 t242.length co47) : Value).ownBlock ∧ some k_ ≠ ((.slice Ao48 t245.length co48) : Value).ownBlock ∧ some k_ ≠ ((.slice Ao49 t248.length co49) : Value).ownBlock ∧ k_ ≠ gb207 ∧ k_ ≠ gb208 ∧ k_ ≠ gb240 ∧ k_ ≠ gb252 ∧ k_ ≠ gb277 ∧ k_ ≠ gb278) (.slice Ao17 t213.length co17) t213) ∧ Aside0 (Kd.V (Kd.int .i64) 3 wc w.heap.size (fun k_ => some k_ ≠ ((.slice Ao47 t242.length co47) : Value).ownBlock ∧ some k_ ≠ ((.slice Ao48 t245.length co48) : Value).ownBlock ∧ some k_ ≠ ((.slice Ao49 t248.length co49) : Value).ownBlock ∧ k_ ≠ gb207 ∧ k_ ≠ gb208 ∧ k_ ≠ gb240 ∧ k_ ≠ gb252 ∧ k_ ≠ gb277 ∧ k_ ≠ gb278) (.slice Ao19 t216.length co19) t216) ∧ Aside0 (Kd.V Kd.string 9 wc w.heap.size (fun k_ => some k_ ≠ ((.slice Ao47 t242.length co47) : Value).ownBlock ∧ some k_ ≠ ((.slice Ao48 t245.length co48) : Value).ownBlock ∧ some k_ ≠ ((.slice Ao49 t248.length co49) : Value).ownBlock ∧ k_ ≠ gb207 ∧ k_ ≠ gb208 ∧ k_ ≠ gb240 ∧ k_ ≠ gb252 ∧ k_ ≠ gb277 ∧ k_ ≠ gb278) (.slice Ao22 t220.length co22) t220) ∧ Aside0 (Kd.V Kd.string 9 wc w.heap.size (fun k_ => some k_ ≠ ((.slice Ao47 t242.length co47) : Value).ownBlock ∧ some k_ ≠ ((.slice Ao48 t245.length co48) : Value).ownBlock ∧ some k_ ≠ ((.slice Ao49 t248.length co49) : Value).ownBlock ∧ k_ ≠ gb207 ∧ k_ ≠ gb208 ∧ k_ ≠ gb240 ∧ k_ ≠ gb252 ∧ k_ ≠ gb277 ∧ k_ ≠ gb278) (.slice Ao24 t223.length co24) t223) ∧ Aside0 (Kd.V (Kd.int .i64) 3 wc w.heap.size (fun k_ => some k_ ≠ ((.slice Ao47 t242.length co47) : Value).ownBlock ∧ some k_ ≠ ((.slice Ao48 t245.length co48) : Value).ownBlock ∧ some k_ ≠ ((.slice Ao49 t248.length co49) : Value).ownBlock ∧ k_ ≠ gb207 ∧ k_ ≠ gb208 ∧ k_ ≠ gb240 ∧ k_ ≠ gb252 ∧ k_ ≠ gb277 ∧ k_ ≠ gb278) (.slice Ao26 t226.length co26) t226) ∧ Aside0 (Kd.V Kd.string 9 wc w.heap.size (fun k_ => some k_ ≠ ((.slice Ao47 t242.length co47) : Value).ownBlock ∧ some k_ ≠ ((.slice Ao48 t245.length co48) : Value).ownBlock ∧ some k_ ≠ ((.slice Ao49 t248.length co49) : Value).ownBlock ∧ k_ ≠ gb207 ∧ k_ ≠ gb208 ∧ k_ ≠ gb240 ∧ k_ ≠ gb252 ∧ k_ ≠ gb277 ∧ k_ ≠ gb278) (.slice Ao36 t230.length co36) t230) ∧ Aside0 (Kd.V Kd.string 9 wc w.heap.size (fun k_ => some k_ ≠ ((.slice Ao47 t242.length co47) : Value).ownBlock ∧ some k_ ≠ ((.slice Ao48 t245.length co48) : Value).ownBlock ∧ some k_ ≠ ((.slice Ao49 t248.length co49) : Value).ownBlock ∧ k_ ≠ gb207 ∧ k_ ≠ gb208 ∧ k_ ≠ gb240 ∧ k_ ≠ gb252 ∧ k_ ≠ gb277 ∧ k_ ≠ gb278) (.slice Ao37 t233.length co37) t233) ∧ Aside0 (Kd.V (Kd.int .i64) 3 wc w.heap.size (fun k_ => some k_ ≠ ((.slice Ao47 t242.length co47) : Value).ownBlock ∧ some k_ ≠ ((.slice Ao48 t245.length co48) : Value).ownBlock ∧ some k_ ≠ ((.slice Ao49 t248.length co49) : Value).ownBlock ∧ k_ ≠ gb207 ∧ k_ ≠ gb208 ∧ k_ ≠ gb240 ∧ k_ ≠ gb252 ∧ k_ ≠ gb277 ∧ k_ ≠ gb278) (.slice Ao38 t236.length co38) t236) ∧ Aside0 (Kd.R Kd.string 9 wc w.heap.size (fun k_ => some k_ ≠ ((.slice Ao48 t245.length co48) : Value).ownBlock) (.slice Ao47 t242.length co47) t242) ∧ Aside0 (Kd.R Kd.string 9 wc w.heap.size (fun k_ => some k_ ≠ ((.slice Ao47 t242.length co47) : Value).ownBlock) (.slice Ao48 t245.length co48) t245) ∧ Aside0 (Kd.R (Kd.int .i64) 3 wc w.heap.size (fun _ => True) (.slice Ao49 t248.length co49) t248) ∧ Aside0 (Kd.V Kd.string 9 wc w.heap.size (fun k_ => some k_ ≠ ((.slice Ao47 t242.length co47) : Value).ownBlock ∧ some k_ ≠ ((.slice Ao48 t245.length co48) : Value).ownBlock ∧ some k_ ≠ ((.slice Ao49 t248.length co49) : Value).ownBlock ∧ k_ ≠ gb207 ∧ k_ ≠ gb208 ∧ k_ ≠ gb240 ∧ k_ ≠ gb252 ∧ k_ ≠ gb277 ∧ k_ ≠ gb278) (.slice Ao87 t256.length co87) t256) ∧ Aside0 (Kd.V Kd.string 9 wc w.heap.size (fun k_ => some k_ ≠ ((.slice Ao47 t242.length co47) : Value).ownBlock ∧ some k_ ≠ ((.slice Ao48 t245.length co48) : Value).ownBlock ∧ some k_ ≠ ((.slice Ao49 t248.length co49) : Value).ownBlock ∧ k_ ≠ gb207 ∧ k_ ≠ gb208 ∧ k_ ≠ gb240 ∧ k_ ≠ gb252 ∧ k_ ≠ gb277 ∧ k_ ≠ gb278) (.slice Ao88 t259.length co88) t259) ∧ Aside0 (Kd.V (Kd.int .i64) 3 wc w.heap.size (fun k_ => some k_ ≠ ((.slice Ao47 t242.length co47) : Value).ownBlock ∧ some k_ ≠ ((.slice Ao48 t245.length co48) : Value).ownBlock ∧ some k_ ≠ ((.slice Ao49 t248.length co49) : Value).ownBlock ∧ k_ ≠ gb207 ∧ k_ ≠ gb208 ∧ k_ ≠ gb240 ∧ k_ ≠ gb252 ∧ k_ ≠ gb277 ∧ k_ ≠ gb278) (.slice Ao89 t262.length co89) t262) ∧ Aside0 (Kd.V Kd.string 9 wc w.heap.size (fun k_ => some k_ ≠ ((.slice Ao47 t242.length co47) : Value).ownBlock ∧ some k_ ≠ ((.slice Ao48 t245.length co48) : Value).ownBlock ∧ some k_ ≠ ((.slice Ao49 t248.length co49) : Value).ownBlock ∧ k_ ≠ gb207 ∧ k_ ≠ gb208 ∧ k_ ≠ gb240 ∧ k_ ≠ gb252 ∧ k_ ≠ gb277 ∧ k_ ≠ gb278) (.slice Ao95 t267.length co95) t267) ∧ Aside0 (Kd.V Kd.string 9 wc w.heap.size (fun k_ => some k_ ≠ ((.slice Ao47 t242.length co47) : Value).ownBlock ∧ some k_ ≠ ((.slice Ao48 t245.length co48) : Value).ownBlock ∧ some k_ ≠ ((.slice Ao49 t248.length co49) : Value).ownBlock ∧ k_ ≠ gb207 ∧ k_ ≠ gb208 ∧ k_ ≠ gb240 ∧ k_ ≠ gb252 ∧ k_ ≠ gb277 ∧ k_ ≠ gb278) (.slice Ao96 t270.length co96) t270) ∧ Aside0 (Kd.V (Kd.int .i64) 3 wc w.heap.size (fun k_ => some k_ ≠ ((.slice Ao47 t242.length co47) : Value).ownBlock ∧ some k_ ≠ ((.slice Ao48 t245.length co48) : Value).ownBlock ∧ some k_ ≠ ((.slice Ao49 t248.length co49) : Value).ownBlock ∧ k_ ≠ gb207 ∧ k_ ≠ gb208 ∧ k_ ≠ gb240 ∧ k_ ≠ gb252 ∧ k_ ≠ gb277 ∧ k_ ≠ gb278) (.slice Ao97 t273.length co97) t273) ∧ Aside0 (wc.heap[gb207]? = some (.cells #[.bool t209, (.slice Ao15 t210.length co15), (.slice Ao17 t213.length co17), (.slice Ao19 t216.length co19)] 25 (0, 0))) ∧ Aside0 (wc.heap[gb208]? = some (.cells #[.bool t219, (.slice Ao22 t220.length co22), (.slice Ao24 t223.length co24), (.slice Ao26 t226.length co26)] 25 (0, 0))) ∧ Aside0 (wc.heap[gb240]? = some (.cells #[.bool t229, (.slice Ao36 t230.length co36), (.slice Ao37 t233.length co37), (.slice Ao38 t236.length co38)] 25 (0, 0))) ∧ Aside0 (wc.heap[gb252]? = some (.cells #[.bool t241, (.slice Ao47 t242.length co47), (.slice Ao48 t245.length co48), (.slice Ao49 t248.length co49)] 25 (0, 0))) ∧ Aside0 (wc.heap[gb277]? = some (.cells #[.bool t255, (.slice Ao87 t256.length co87), (.slice Ao88 t259.length co88), (.slice Ao89 t262.length co89)] 25 (0, 0))) ∧ Aside0 (wc.heap[gb278]? = some (.cells #[.bool t266, (.slice Ao95 t267.length co95), (.slice Ao96 t270.length co96), (.slice Ao97 t273.length co97)] 25 (0, 0))) ∧ Aside0 (Below w.heap.size w wc))
    case first =>
     have H := HC73.out
     clear HC73
     replace H := Option.bind_eq_some_iff.mp H
     obtain ⟨t279, A980, H⟩ := H
     replace H : (if t279 = true then (penelopelaw07_NodeCuts.j1 kj7 t265 t276 ((t210.length : Int) != 9) t209 t210 t213 t216 t255 t256 t259 t262 t266 t267 t270 t273) else (penelopelaw07_NodeCuts.j1 kj7 t265 t276 true t209 t210 t213 t216 t255 t256 t259 t262 t266 t267 t270 t273)) = some r := H
     have A98 := am A980
     clear A980
     by_cases c99 : t279 = true
     ·
      subst c99
      have H1 : (penelopelaw07_NodeCuts.j1 kj7 t265 t276 ((t210.length : Int) != 9) t209 t210 t213 t216 t255 t256 t259 t262 t266 t267 t270 t273) = some r := by rw [if_pos rfl] at H; exact H
      clear H
      have H := H1
      clear H1
      have H' := am H
      clear H
      have hnb100 := NB207_208.out
      have hnc100 := NB208_207.out
      have hnb101 := NB207_240.out
      have hnc101 := NB240_207.out
      have hnb102 := NB207_252.out
      have hnc102 := NB252_207.out
      have hnb103 := NB207_277.out
      have hnc103 := NB277_207.out
      have hnb104 := NB207_278.out
      have hnc104 := NB278_207.out
      obtain ⟨hcz105_0, hcz105_1, hcz105_2, hcz105_3⟩ := c4 BK207.out
      obtain ⟨hfz105_0, hfz105_1, hfz105_2, hfz105_3⟩ := z4 BK207.out
      go_wp2_with (first | ((with_reducible refine gate_callee (f := 20) rfl ?_); refine goesL_ (some 57) rfl rfl Try.func20 (by kernel_rfl) rfl #[.agg #[.bool t209, .slice Ao15 t210.length co15, .slice Ao17 t213.length co17, .slice Ao19 t216.length co19]] rfl (by (try simp only [List.map_toArray, List.map_cons, List.map_nil]); first | done | rfl | (simp only [List.length_drop, List.length_take]; rfl)) ?_; (with_reducible refine (peneloperef07_Stands.calls kj7 t209 _ _ t210 _ _ t213 _ _ t216 true _ ?side1 ?side2 ?side3 ?side4 ?side5 ?side6 A98.out).mono ?_); (case side1 => exact (Kd.V_reads' (pV HO_208001.out)).2.2); (case side2 => exact (Kd.V_reads' HO_208001.out).2.1); (case side3 => exact (Kd.V_reads' (pV HO_208002.out)).2.2); (case side4 => exact (Kd.V_reads' HO_208002.out).2.1); (case side5 => exact (Kd.V_reads' (pV HO_208003.out)).2.2); (case side6 => exact (Kd.V_reads' HO_208003.out).2.1); rintro e w106 ⟨rfl, hb⟩; refine ⟨_, rfl, ?_⟩; replace HO_208001 := am (Kd.V_below (pV HO_208001.out) hb); replace HO_208002 := am (Kd.V_below (pV HO_208002.out) hb); replace HO_208003 := am (Kd.V_below (pV HO_208003.out) hb); replace HO_209001 := am (Kd.V_below (pV HO_209001.out) hb); replace HO_209002 := am (Kd.V_below (pV HO_209002.out) hb); replace HO_209003 := am (Kd.V_below (pV HO_209003.out) hb); replace HO_241001 := am (Kd.V_below (pV HO_241001.out) hb); replace HO_241002 := am (Kd.V_below (pV HO_241002.out) hb); replace HO_241003 := am (Kd.V_below (pV HO_241003.out) hb); replace HO_253001 := am (Kd.R_below ((Kd.R_mono (Kd.R_mono (pR (Kd.R_types (Kd.R_types HO_253001.out BK277.out (by decide)) BK278.out (by decide))) (fun _ h_ => h_.1)) (fun _ h_ => h_.1))) hb); replace HO_253002 := am (Kd.R_below ((Kd.R_mono (Kd.R_mono (pR (Kd.R_types (Kd.R_types HO_253002.out BK277.out (by decide)) BK278.out (by decide))) (fun _ h_ => h_.1)) (fun _ h_ => h_.1))) hb); replace HO_253003 := am (Kd.R_below ((Kd.R_mono (Kd.R_mono (pR (Kd.R_types (Kd.R_types HO_253003.out BK277.out (by decide)) BK278.out (by decide))) (fun _ h_ => h_.1)) (fun _ h_ => h_.1))) hb); replace HO258 := am (Kd.V_below (pV HO258.out) hb); replace HO261 := am (Kd.V_below (pV HO261.out) hb); replace HO264 := am (Kd.V_below (pV HO264.out) hb); replace HO269 := am (Kd.V_below (pV HO269.out) hb); replace HO272 := am (Kd.V_below (pV HO272.out) hb); replace HO275 := am (Kd.V_below (pV HO275.out) hb); replace BK207 := am (blk_below (pk BK207.out) hb); replace BK208 := am (blk_below (pk BK208.out) hb); replace BK240 := am (blk_below (pk BK240.out) hb); replace BK252 := am (blk_below (pk BK252.out) hb); replace BK277 := am (blk_below (g := gb277) (o := .cells #[.bool t255, .slice Ao87 t256.length co87, .slice Ao88 t259.length co88, .slice Ao89 t262.length co89] 25 (0, 0)) (pP BK277.out) hb); replace BK278 := am (blk_below (g := gb278) (o := .cells #[.bool t266, .slice Ao95 t267.length co95, .slice Ao96 t270.length co96, .slice Ao97 t273.length co97] 25 (0, 0)) (pP BK278.out) hb); replace HB := am (below_step (pB HB.out) hb); (try clear hb); (try clear hb2); (try clear hk); (try clear hi); obtain ⟨hcz107_0, hcz107_1, hcz107_2, hcz107_3⟩ := c4 BK207.out; obtain ⟨hfz107_0, hfz107_1, hfz107_2, hfz107_3⟩ := z4 BK207.out))
      go_meet
      case rel => exact ⟨_, (((t210.length : Int) != 9)), (by first | rfl | (simp; done) | (simp [*]; done)), H', ⟨by have := HJ7.out; first | omega | exact Nat.le_refl _⟩, ⟨by exact Kd.V_mono (pV HO_208001.out) (fun _ hk => ⟨hk.1.1.1, ⟨hk.1.1.2.1, ⟨hk.1.1.2.2.1, ⟨hk.1.1.2.2.2.1, ⟨hk.1.1.2.2.2.2.1, ⟨hk.1.1.2.2.2.2.2.1, ⟨hk.1.1.2.2.2.2.2.2, ⟨hk.1.2, hk.2⟩⟩⟩⟩⟩⟩⟩⟩)⟩, ⟨by exact Kd.V_mono (pV HO_208002.out) (fun _ hk => ⟨hk.1.1.1, ⟨hk.1.1.2.1, ⟨hk.1.1.2.2.1, ⟨hk.1.1.2.2.2.1, ⟨hk.1.1.2.2.2.2.1, ⟨hk.1.1.2.2.2.2.2.1, ⟨hk.1.1.2.2.2.2.2.2, ⟨hk.1.2, hk.2⟩⟩⟩⟩⟩⟩⟩⟩)⟩, ⟨by exact Kd.V_mono (pV HO_208003.out) (fun _ hk => ⟨hk.1.1.1, ⟨hk.1.1.2.1, ⟨hk.1.1.2.2.1, ⟨hk.1.1.2.2.2.1, ⟨hk.1.1.2.2.2.2.1, ⟨hk.1.1.2.2.2.2.2.1, ⟨hk.1.1.2.2.2.2.2.2, ⟨hk.1.2, hk.2⟩⟩⟩⟩⟩⟩⟩⟩)⟩, ⟨by exact Kd.V_mono (pV HO_209001.out) (fun _ hk => ⟨hk.1.1.1, ⟨hk.1.1.2.1, ⟨hk.1.1.2.2.1, ⟨hk.1.1.2.2.2.1, ⟨hk.1.1.2.2.2.2.1, ⟨hk.1.1.2.2.2.2.2.1, ⟨hk.1.1.2.2.2.2.2.2, ⟨hk.1.2, hk.2⟩⟩⟩⟩⟩⟩⟩⟩)⟩, ⟨by exact Kd.V_mono (pV HO_209002.out) (fun _ hk => ⟨hk.1.1.1, ⟨hk.1.1.2.1, ⟨hk.1.1.2.2.1, ⟨hk.1.1.2.2.2.1, ⟨hk.1.1.2.2.2.2.1, ⟨hk.1.1.2.2.2.2.2.1, ⟨hk.1.1.2.2.2.2.2.2, ⟨hk.1.2, hk.2⟩⟩⟩⟩⟩⟩⟩⟩)⟩, ⟨by exact Kd.V_mono (pV HO_209003.out) (fun _ hk => ⟨hk.1.1.1, ⟨hk.1.1.2.1, ⟨hk.1.1.2.2.1, ⟨hk.1.1.2.2.2.1, ⟨hk.1.1.2.2.2.2.1, ⟨hk.1.1.2.2.2.2.2.1, ⟨hk.1.1.2.2.2.2.2.2, ⟨hk.1.2, hk.2⟩⟩⟩⟩⟩⟩⟩⟩)⟩, ⟨by exact Kd.V_mono (pV HO_241001.out) (fun _ hk => ⟨hk.1.1.1, ⟨hk.1.1.2.1, ⟨hk.1.1.2.2.1, ⟨hk.1.1.2.2.2.1, ⟨hk.1.1.2.2.2.2.1, ⟨hk.1.1.2.2.2.2.2.1, ⟨hk.1.1.2.2.2.2.2.2, ⟨hk.1.2, hk.2⟩⟩⟩⟩⟩⟩⟩⟩)⟩, ⟨by exact Kd.V_mono (pV HO_241002.out) (fun _ hk => ⟨hk.1.1.1, ⟨hk.1.1.2.1, ⟨hk.1.1.2.2.1, ⟨hk.1.1.2.2.2.1, ⟨hk.1.1.2.2.2.2.1, ⟨hk.1.1.2.2.2.2.2.1, ⟨hk.1.1.2.2.2.2.2.2, ⟨hk.1.2, hk.2⟩⟩⟩⟩⟩⟩⟩⟩)⟩, ⟨by exact Kd.V_mono (pV HO_241003.out) (fun _ hk => ⟨hk.1.1.1, ⟨hk.1.1.2.1, ⟨hk.1.1.2.2.1, ⟨hk.1.1.2.2.2.1, ⟨hk.1.1.2.2.2.2.1, ⟨hk.1.1.2.2.2.2.2.1, ⟨hk.1.1.2.2.2.2.2.2, ⟨hk.1.2, hk.2⟩⟩⟩⟩⟩⟩⟩⟩)⟩, ⟨(pR HO_253001.out)⟩, ⟨(pR HO_253002.out)⟩, ⟨(pR HO_253003.out)⟩, ⟨by exact Kd.V_mono (pV HO258.out) (fun _ hk => ⟨hk.1.1.1, ⟨hk.1.1.2.1, ⟨hk.1.1.2.2.1, ⟨hk.1.1.2.2.2.1, ⟨hk.1.1.2.2.2.2.1, ⟨hk.1.1.2.2.2.2.2.1, ⟨hk.1.1.2.2.2.2.2.2, ⟨hk.1.2, hk.2⟩⟩⟩⟩⟩⟩⟩⟩)⟩, ⟨by exact Kd.V_mono (pV HO261.out) (fun _ hk => ⟨hk.1.1.1, ⟨hk.1.1.2.1, ⟨hk.1.1.2.2.1, ⟨hk.1.1.2.2.2.1, ⟨hk.1.1.2.2.2.2.1, ⟨hk.1.1.2.2.2.2.2.1, ⟨hk.1.1.2.2.2.2.2.2, ⟨hk.1.2, hk.2⟩⟩⟩⟩⟩⟩⟩⟩)⟩, ⟨by exact Kd.V_mono (pV HO264.out) (fun _ hk => ⟨hk.1.1.1, ⟨hk.1.1.2.1, ⟨hk.1.1.2.2.1, ⟨hk.1.1.2.2.2.1, ⟨hk.1.1.2.2.2.2.1, ⟨hk.1.1.2.2.2.2.2.1, ⟨hk.1.1.2.2.2.2.2.2, ⟨hk.1.2, hk.2⟩⟩⟩⟩⟩⟩⟩⟩)⟩, ⟨by exact Kd.V_mono (pV HO269.out) (fun _ hk => ⟨hk.1.1.1, ⟨hk.1.1.2.1, ⟨hk.1.1.2.2.1, ⟨hk.1.1.2.2.2.1, ⟨hk.1.1.2.2.2.2.1, ⟨hk.1.1.2.2.2.2.2.1, ⟨hk.1.1.2.2.2.2.2.2, ⟨hk.1.2, hk.2⟩⟩⟩⟩⟩⟩⟩⟩)⟩, ⟨by exact Kd.V_mono (pV HO272.out) (fun _ hk => ⟨hk.1.1.1, ⟨hk.1.1.2.1, ⟨hk.1.1.2.2.1, ⟨hk.1.1.2.2.2.1, ⟨hk.1.1.2.2.2.2.1, ⟨hk.1.1.2.2.2.2.2.1, ⟨hk.1.1.2.2.2.2.2.2, ⟨hk.1.2, hk.2⟩⟩⟩⟩⟩⟩⟩⟩)⟩, ⟨by exact Kd.V_mono (pV HO275.out) (fun _ hk => ⟨hk.1.1.1, ⟨hk.1.1.2.1, ⟨hk.1.1.2.2.1, ⟨hk.1.1.2.2.2.1, ⟨hk.1.1.2.2.2.2.1, ⟨hk.1.1.2.2.2.2.2.1, ⟨hk.1.1.2.2.2.2.2.2, ⟨hk.1.2, hk.2⟩⟩⟩⟩⟩⟩⟩⟩)⟩, ⟨pk BK207.out⟩, ⟨pk BK208.out⟩, ⟨pk BK240.out⟩, ⟨pk BK252.out⟩, ⟨pk BK277.out⟩, ⟨pk BK278.out⟩, ⟨pB HB.out⟩⟩
     ·
      replace c99 := Bool.eq_false_iff.mpr c99
      subst c99
      have H1 : (penelopelaw07_NodeCuts.j1 kj7 t265 t276 true t209 t210 t213 t216 t255 t256 t259 t262 t266 t267 t270 t273) = some r := by rw [if_neg (show ¬ (false = true) by decide)] at H; exact H
      clear H
      have H := H1
      clear H1
      have H' := am H
      clear H
      have hnb108 := NB207_208.out
      have hnc108 := NB208_207.out
      have hnb109 := NB207_240.out
      have hnc109 := NB240_207.out
      have hnb110 := NB207_252.out
      have hnc110 := NB252_207.out
      have hnb111 := NB207_277.out
      have hnc111 := NB277_207.out
      have hnb112 := NB207_278.out
      have hnc112 := NB278_207.out
      obtain ⟨hcz113_0, hcz113_1, hcz113_2, hcz113_3⟩ := c4 BK207.out
      obtain ⟨hfz113_0, hfz113_1, hfz113_2, hfz113_3⟩ := z4 BK207.out
      go_wp2_with (first | ((with_reducible refine gate_callee (f := 20) rfl ?_); refine goesL_ (some 57) rfl rfl Try.func20 (by kernel_rfl) rfl #[.agg #[.bool t209, .slice Ao15 t210.length co15, .slice Ao17 t213.length co17, .slice Ao19 t216.length co19]] rfl (by (try simp only [List.map_toArray, List.map_cons, List.map_nil]); first | done | rfl | (simp only [List.length_drop, List.length_take]; rfl)) ?_; (with_reducible refine (peneloperef07_Stands.calls kj7 t209 _ _ t210 _ _ t213 _ _ t216 false _ ?side1 ?side2 ?side3 ?side4 ?side5 ?side6 A98.out).mono ?_); (case side1 => exact (Kd.V_reads' (pV HO_208001.out)).2.2); (case side2 => exact (Kd.V_reads' HO_208001.out).2.1); (case side3 => exact (Kd.V_reads' (pV HO_208002.out)).2.2); (case side4 => exact (Kd.V_reads' HO_208002.out).2.1); (case side5 => exact (Kd.V_reads' (pV HO_208003.out)).2.2); (case side6 => exact (Kd.V_reads' HO_208003.out).2.1); rintro e w114 ⟨rfl, hb⟩; refine ⟨_, rfl, ?_⟩; replace HO_208001 := am (Kd.V_below (pV HO_208001.out) hb); replace HO_208002 := am (Kd.V_below (pV HO_208002.out) hb); replace HO_208003 := am (Kd.V_below (pV HO_208003.out) hb); replace HO_209001 := am (Kd.V_below (pV HO_209001.out) hb); replace HO_209002 := am (Kd.V_below (pV HO_209002.out) hb); replace HO_209003 := am (Kd.V_below (pV HO_209003.out) hb); replace HO_241001 := am (Kd.V_below (pV HO_241001.out) hb); replace HO_241002 := am (Kd.V_below (pV HO_241002.out) hb); replace HO_241003 := am (Kd.V_below (pV HO_241003.out) hb); replace HO_253001 := am (Kd.R_below ((Kd.R_mono (Kd.R_mono (pR (Kd.R_types (Kd.R_types HO_253001.out BK277.out (by decide)) BK278.out (by decide))) (fun _ h_ => h_.1)) (fun _ h_ => h_.1))) hb); replace HO_253002 := am (Kd.R_below ((Kd.R_mono (Kd.R_mono (pR (Kd.R_types (Kd.R_types HO_253002.out BK277.out (by decide)) BK278.out (by decide))) (fun _ h_ => h_.1)) (fun _ h_ => h_.1))) hb); replace HO_253003 := am (Kd.R_below ((Kd.R_mono (Kd.R_mono (pR (Kd.R_types (Kd.R_types HO_253003.out BK277.out (by decide)) BK278.out (by decide))) (fun _ h_ => h_.1)) (fun _ h_ => h_.1))) hb); replace HO258 := am (Kd.V_below (pV HO258.out) hb); replace HO261 := am (Kd.V_below (pV HO261.out) hb); replace HO264 := am (Kd.V_below (pV HO264.out) hb); replace HO269 := am (Kd.V_below (pV HO269.out) hb); replace HO272 := am (Kd.V_below (pV HO272.out) hb); replace HO275 := am (Kd.V_below (pV HO275.out) hb); replace BK207 := am (blk_below (pk BK207.out) hb); replace BK208 := am (blk_below (pk BK208.out) hb); replace BK240 := am (blk_below (pk BK240.out) hb); replace BK252 := am (blk_below (pk BK252.out) hb); replace BK277 := am (blk_below (g := gb277) (o := .cells #[.bool t255, .slice Ao87 t256.length co87, .slice Ao88 t259.length co88, .slice Ao89 t262.length co89] 25 (0, 0)) (pP BK277.out) hb); replace BK278 := am (blk_below (g := gb278) (o := .cells #[.bool t266, .slice Ao95 t267.length co95, .slice Ao96 t270.length co96, .slice Ao97 t273.length co97] 25 (0, 0)) (pP BK278.out) hb); replace HB := am (below_step (pB HB.out) hb); (try clear hb); (try clear hb2); (try clear hk); (try clear hi)))
      go_meet
      case rel => exact ⟨_, (true), (by first | rfl | (simp; done) | (simp [*]; done)), H', ⟨by have := HJ7.out; first | omega | exact Nat.le_refl _⟩, ⟨by exact Kd.V_mono (pV HO_208001.out) (fun _ hk => ⟨hk.1.1.1, ⟨hk.1.1.2.1, ⟨hk.1.1.2.2.1, ⟨hk.1.1.2.2.2.1, ⟨hk.1.1.2.2.2.2.1, ⟨hk.1.1.2.2.2.2.2.1, ⟨hk.1.1.2.2.2.2.2.2, ⟨hk.1.2, hk.2⟩⟩⟩⟩⟩⟩⟩⟩)⟩, ⟨by exact Kd.V_mono (pV HO_208002.out) (fun _ hk => ⟨hk.1.1.1, ⟨hk.1.1.2.1, ⟨hk.1.1.2.2.1, ⟨hk.1.1.2.2.2.1, ⟨hk.1.1.2.2.2.2.1, ⟨hk.1.1.2.2.2.2.2.1, ⟨hk.1.1.2.2.2.2.2.2, ⟨hk.1.2, hk.2⟩⟩⟩⟩⟩⟩⟩⟩)⟩, ⟨by exact Kd.V_mono (pV HO_208003.out) (fun _ hk => ⟨hk.1.1.1, ⟨hk.1.1.2.1, ⟨hk.1.1.2.2.1, ⟨hk.1.1.2.2.2.1, ⟨hk.1.1.2.2.2.2.1, ⟨hk.1.1.2.2.2.2.2.1, ⟨hk.1.1.2.2.2.2.2.2, ⟨hk.1.2, hk.2⟩⟩⟩⟩⟩⟩⟩⟩)⟩, ⟨by exact Kd.V_mono (pV HO_209001.out) (fun _ hk => ⟨hk.1.1.1, ⟨hk.1.1.2.1, ⟨hk.1.1.2.2.1, ⟨hk.1.1.2.2.2.1, ⟨hk.1.1.2.2.2.2.1, ⟨hk.1.1.2.2.2.2.2.1, ⟨hk.1.1.2.2.2.2.2.2, ⟨hk.1.2, hk.2⟩⟩⟩⟩⟩⟩⟩⟩)⟩, ⟨by exact Kd.V_mono (pV HO_209002.out) (fun _ hk => ⟨hk.1.1.1, ⟨hk.1.1.2.1, ⟨hk.1.1.2.2.1, ⟨hk.1.1.2.2.2.1, ⟨hk.1.1.2.2.2.2.1, ⟨hk.1.1.2.2.2.2.2.1, ⟨hk.1.1.2.2.2.2.2.2, ⟨hk.1.2, hk.2⟩⟩⟩⟩⟩⟩⟩⟩)⟩, ⟨by exact Kd.V_mono (pV HO_209003.out) (fun _ hk => ⟨hk.1.1.1, ⟨hk.1.1.2.1, ⟨hk.1.1.2.2.1, ⟨hk.1.1.2.2.2.1, ⟨hk.1.1.2.2.2.2.1, ⟨hk.1.1.2.2.2.2.2.1, ⟨hk.1.1.2.2.2.2.2.2, ⟨hk.1.2, hk.2⟩⟩⟩⟩⟩⟩⟩⟩)⟩, ⟨by exact Kd.V_mono (pV HO_241001.out) (fun _ hk => ⟨hk.1.1.1, ⟨hk.1.1.2.1, ⟨hk.1.1.2.2.1, ⟨hk.1.1.2.2.2.1, ⟨hk.1.1.2.2.2.2.1, ⟨hk.1.1.2.2.2.2.2.1, ⟨hk.1.1.2.2.2.2.2.2, ⟨hk.1.2, hk.2⟩⟩⟩⟩⟩⟩⟩⟩)⟩, ⟨by exact Kd.V_mono (pV HO_241002.out) (fun _ hk => ⟨hk.1.1.1, ⟨hk.1.1.2.1, ⟨hk.1.1.2.2.1, ⟨hk.1.1.2.2.2.1, ⟨hk.1.1.2.2.2.2.1, ⟨hk.1.1.2.2.2.2.2.1, ⟨hk.1.1.2.2.2.2.2.2, ⟨hk.1.2, hk.2⟩⟩⟩⟩⟩⟩⟩⟩)⟩, ⟨by exact Kd.V_mono (pV HO_241003.out) (fun _ hk => ⟨hk.1.1.1, ⟨hk.1.1.2.1, ⟨hk.1.1.2.2.1, ⟨hk.1.1.2.2.2.1, ⟨hk.1.1.2.2.2.2.1, ⟨hk.1.1.2.2.2.2.2.1, ⟨hk.1.1.2.2.2.2.2.2, ⟨hk.1.2, hk.2⟩⟩⟩⟩⟩⟩⟩⟩)⟩, ⟨(pR HO_253001.out)⟩, ⟨(pR HO_253002.out)⟩, ⟨(pR HO_253003.out)⟩, ⟨by exact Kd.V_mono (pV HO258.out) (fun _ hk => ⟨hk.1.1.1, ⟨hk.1.1.2.1, ⟨hk.1.1.2.2.1, ⟨hk.1.1.2.2.2.1, ⟨hk.1.1.2.2.2.2.1, ⟨hk.1.1.2.2.2.2.2.1, ⟨hk.1.1.2.2.2.2.2.2, ⟨hk.1.2, hk.2⟩⟩⟩⟩⟩⟩⟩⟩)⟩, ⟨by exact Kd.V_mono (pV HO261.out) (fun _ hk => ⟨hk.1.1.1, ⟨hk.1.1.2.1, ⟨hk.1.1.2.2.1, ⟨hk.1.1.2.2.2.1, ⟨hk.1.1.2.2.2.2.1, ⟨hk.1.1.2.2.2.2.2.1, ⟨hk.1.1.2.2.2.2.2.2, ⟨hk.1.2, hk.2⟩⟩⟩⟩⟩⟩⟩⟩)⟩, ⟨by exact Kd.V_mono (pV HO264.out) (fun _ hk => ⟨hk.1.1.1, ⟨hk.1.1.2.1, ⟨hk.1.1.2.2.1, ⟨hk.1.1.2.2.2.1, ⟨hk.1.1.2.2.2.2.1, ⟨hk.1.1.2.2.2.2.2.1, ⟨hk.1.1.2.2.2.2.2.2, ⟨hk.1.2, hk.2⟩⟩⟩⟩⟩⟩⟩⟩)⟩, ⟨by exact Kd.V_mono (pV HO269.out) (fun _ hk => ⟨hk.1.1.1, ⟨hk.1.1.2.1, ⟨hk.1.1.2.2.1, ⟨hk.1.1.2.2.2.1, ⟨hk.1.1.2.2.2.2.1, ⟨hk.1.1.2.2.2.2.2.1, ⟨hk.1.1.2.2.2.2.2.2, ⟨hk.1.2, hk.2⟩⟩⟩⟩⟩⟩⟩⟩)⟩, ⟨by exact Kd.V_mono (pV HO272.out) (fun _ hk => ⟨hk.1.1.1, ⟨hk.1.1.2.1, ⟨hk.1.1.2.2.1, ⟨hk.1.1.2.2.2.1, ⟨hk.1.1.2.2.2.2.1, ⟨hk.1.1.2.2.2.2.2.1, ⟨hk.1.1.2.2.2.2.2.2, ⟨hk.1.2, hk.2⟩⟩⟩⟩⟩⟩⟩⟩)⟩, ⟨by exact Kd.V_mono (pV HO275.out) (fun _ hk => ⟨hk.1.1.1, ⟨hk.1.1.2.1, ⟨hk.1.1.2.2.1, ⟨hk.1.1.2.2.2.1, ⟨hk.1.1.2.2.2.2.1, ⟨hk.1.1.2.2.2.2.2.1, ⟨hk.1.1.2.2.2.2.2.2, ⟨hk.1.2, hk.2⟩⟩⟩⟩⟩⟩⟩⟩)⟩, ⟨pk BK207.out⟩, ⟨pk BK208.out⟩, ⟨pk BK240.out⟩, ⟨pk BK252.out⟩, ⟨pk BK277.out⟩, ⟨pk BK278.out⟩, ⟨pB HB.out⟩⟩
    case rest =>
     clear HC73
     try clear c1
     try clear c2
     try clear p2
     try clear c3
     try clear c4
     try clear c5
     try clear c6
     try clear c7
     try clear c8
     try clear c9
     try clear c10
     try clear c11
     try clear c20
     try clear c21
     try clear c22
     try clear c24
     try clear c28
     try clear c33
     try clear c34
     try clear c43
     try clear c44
     try clear c45
     try clear c50
     try clear c50b0
     try clear c50b1
     try clear c52
     try clear c54
     try clear c55
     try clear c56
     try clear c58
     try clear c59
     try clear c63
     try clear c64
     try clear c65
     try clear c67
     try clear c68
     try clear c71
     try clear c74
     try clear c75
     try clear c76
     try clear c81
     try clear c82
     try clear c83
     try clear c84
     try clear c85
     try clear c90
     try clear c91
     try clear c92
     try clear c93
     try clear c99
     try clear c100
     try clear c101
     try clear c102
     try clear c103
     try clear c104
     try clear c108
     try clear c109
     try clear c110
     try clear c111
     try clear c112
     try clear hcz105_0
     try clear hcz105_1
     try clear hcz105_2
     try clear hcz105_3
     try clear hcz107_0
     try clear hcz107_1
     try clear hcz107_2
     try clear hcz107_3
     try clear hcz113_0
     try clear hcz113_1
     try clear hcz113_2
     try clear hcz113_3
     try clear hcz29_0
     try clear hcz29_1
     try clear hcz29_2
     try clear hcz29_3
     try clear hcz30_0
     try clear hcz30_1
     try clear hcz30_2
     try clear hcz30_3
     try clear hcz35_0
     try clear hcz35_1
     try clear hcz35_2
     try clear hcz35_3
     try clear hcz39_0
     try clear hcz39_1
     try clear hcz39_2
     try clear hcz39_3
     try clear hcz40_0
     try clear hcz40_1
     try clear hcz40_2
     try clear hcz40_3
     try clear hcz46_0
     try clear hcz46_1
     try clear hcz46_2
     try clear hcz46_3
     try clear hcz57_0
     try clear hcz57_1
     try clear hcz57_2
     try clear hcz57_3
     try clear hcz60_0
     try clear hcz60_1
     try clear hcz60_2
     try clear hcz60_3
     try clear hcz66_0
     try clear hcz66_1
     try clear hcz66_2
     try clear hcz66_3
     try clear hcz69_0
     try clear hcz69_1
     try clear hcz69_2
     try clear hcz69_3
     try clear hcz77_0
     try clear hcz77_1
     try clear hcz77_2
     try clear hcz77_3
     try clear hcz86_0
     try clear hcz86_1
     try clear hcz86_2
     try clear hcz86_3
     try clear hcz94_0
     try clear hcz94_1
     try clear hcz94_2
     try clear hcz94_3
     try clear hfz105_0
     try clear hfz105_1
     try clear hfz105_2
     try clear hfz105_3
     try clear hfz107_0
     try clear hfz107_1
     try clear hfz107_2
     try clear hfz107_3
     try clear hfz113_0
     try clear hfz113_1
     try clear hfz113_2
     try clear hfz113_3
     try clear hfz29_0
     try clear hfz29_1
     try clear hfz29_2
     try clear hfz29_3
     try clear hfz30_0
     try clear hfz30_1
     try clear hfz30_2
     try clear hfz30_3
     try clear hfz35_0
     try clear hfz35_1
     try clear hfz35_2
     try clear hfz35_3
     try clear hfz39_0
     try clear hfz39_1
     try clear hfz39_2
     try clear hfz39_3
     try clear hfz40_0
     try clear hfz40_1
     try clear hfz40_2
     try clear hfz40_3
     try clear hfz46_0
     try clear hfz46_1
     try clear hfz46_2
     try clear hfz46_3
     try clear hfz57_0
     try clear hfz57_1
     try clear hfz57_2
     try clear hfz57_3
     try clear hfz60_0
     try clear hfz60_1
     try clear hfz60_2
     try clear hfz60_3
     try clear hfz66_0
     try clear hfz66_1
     try clear hfz66_2
     try clear hfz66_3
     try clear hfz69_0
     try clear hfz69_1
     try clear hfz69_2
     try clear hfz69_3
     try clear hfz77_0
     try clear hfz77_1
     try clear hfz77_2
     try clear hfz77_3
     try clear hfz86_0
     try clear hfz86_1
     try clear hfz86_2
     try clear hfz86_3
     try clear hfz94_0
     try clear hfz94_1
     try clear hfz94_2
     try clear hfz94_3
     try clear p2
     obtain ⟨kq, x64_72, rfl, HA, HJ72, HO_208001, HO_208002, HO_208003, HO_209001, HO_209002, HO_209003, HO_241001, HO_241002, HO_241003, HO_253001, HO_253002, HO_253003, HO_278001, HO_278002, HO_278003, HO_279001, HO_279002, HO_279003, BK207, BK208, BK240, BK252, BK277, BK278, HB⟩ := hcut
     cases kq with
     | zero => exact absurd HA.out (by simp [penelopelaw07_NodeCuts.j1])
     | succ kj72 =>
      have H := HA.out
      clear HA
      simp only [penelopelaw07_NodeCuts.j1] at H
      by_cases c115 : x64_72 = true
      ·
       subst c115
       have H1 : (if t276 = 1 then (if t265.toList = ([] : List UInt8) then ((peneloperef07_Like.f kj72 t255 t256 t259 t262 false ([] : List ByteArray) ([] : List ByteArray) ([] : List Int)).bind fun t280 => (if t280 = true then ((peneloperef07_Like.f kj72 t266 t267 t270 t273 false ([] : List ByteArray) ([] : List ByteArray) ([] : List Int)).bind fun t281 => (some t281)) else (none))) else (none)) else (none)) = some r := by rw [if_pos rfl] at H; exact H
       clear H
       have H := H1
       clear H1
       by_cases c116 : t276 = 1
       ·
        rw [if_pos c116] at H
        have c116b0 : (t276 == 1) = true := beq_iff_eq.mpr c116
        have c116b1 : (t276 != 1) = false := bne_eq_false_iff_eq.mpr c116
        clear c116
        by_cases c117 : t265.toList = ([] : List UInt8)
        ·
         rw [if_pos c117] at H
         have c117b0 : (t265.toList == ([] : List UInt8)) = true := beq_iff_eq.mpr c117
         have c117b1 : (t265.toList != ([] : List UInt8)) = false := bne_eq_false_iff_eq.mpr c117
         clear c117
         replace H := Option.bind_eq_some_iff.mp H
         obtain ⟨t280, A1180, H⟩ := H
         replace H : (if t280 = true then ((peneloperef07_Like.f kj72 t266 t267 t270 t273 false ([] : List ByteArray) ([] : List ByteArray) ([] : List Int)).bind fun t281 => (some t281)) else (none)) = some r := H
         have A118 := am A1180
         clear A1180
         by_cases c119 : t280 = true
         ·
          subst c119
          have H1 : ((peneloperef07_Like.f kj72 t266 t267 t270 t273 false ([] : List ByteArray) ([] : List ByteArray) ([] : List Int)).bind fun t281 => (some t281)) = some r := by rw [if_pos rfl] at H; exact H
          clear H
          have H := H1
          clear H1
          replace H := Option.bind_eq_some_iff.mp H
          obtain ⟨t281, A1200, H⟩ := H
          replace H : (some t281) = some r := H
          have A120 := am A1200
          clear A1200
          obtain rfl := Option.some.inj H
          have hnb121 := NB277_207.out
          have hnc121 := NB207_277.out
          have hnb122 := NB277_208.out
          have hnc122 := NB208_277.out
          have hnb123 := NB277_240.out
          have hnc123 := NB240_277.out
          have hnb124 := NB277_252.out
          have hnc124 := NB252_277.out
          have hnb125 := NB277_278.out
          have hnc125 := NB278_277.out
          obtain ⟨hcz126_0, hcz126_1, hcz126_2, hcz126_3⟩ := c4 BK277.out
          obtain ⟨hfz126_0, hfz126_1, hfz126_2, hfz126_3⟩ := z4 BK277.out
          have tk0_ : True := trivial; have tk1_ : True := trivial; go_wp2_with (first | (go_at_call 23; have _t := tk0_; clear _t tk0_; (refine (peneloperef07_Like.calls kj72 t255 _ _ t256 _ _ t259 _ _ t262 false _ _ ([] : List ByteArray) _ _ ([] : List ByteArray) _ _ ([] : List Int) true _ ?side1 ?side2 ?side3 ?side4 ?side5 ?side6 ?side7 ?side8 ?side9 ?side10 ?side11 ?side12 A118.out).mono ?_); (case side1 => exact pC ((Kd.V_reads' HO_278001.out).2.2)); (case side2 => exact (Kd.V_reads' HO_278001.out).2.1); (case side3 => exact pC ((Kd.V_reads' HO_278002.out).2.2)); (case side4 => exact (Kd.V_reads' HO_278002.out).2.1); (case side5 => exact pC ((Kd.V_reads' HO_278003.out).2.2)); (case side6 => exact (Kd.V_reads' HO_278003.out).2.1); (case side7 => exact Kd.C_nil _ _); (case side8 => exact Nat.le_refl _); (case side9 => exact Kd.C_nil _ _); (case side10 => exact Nat.le_refl _); (case side11 => exact Kd.C_nil _ _); (case side12 => exact Nat.le_refl _); rintro e w127 ⟨rfl, hb⟩; replace HO_208001 := am (Kd.V_below (pV HO_208001.out) hb); replace HO_208002 := am (Kd.V_below (pV HO_208002.out) hb); replace HO_208003 := am (Kd.V_below (pV HO_208003.out) hb); replace HO_209001 := am (Kd.V_below (pV HO_209001.out) hb); replace HO_209002 := am (Kd.V_below (pV HO_209002.out) hb); replace HO_209003 := am (Kd.V_below (pV HO_209003.out) hb); replace HO_241001 := am (Kd.V_below (pV HO_241001.out) hb); replace HO_241002 := am (Kd.V_below (pV HO_241002.out) hb); replace HO_241003 := am (Kd.V_below (pV HO_241003.out) hb); replace HO_253001 := am (Kd.R_below (pR HO_253001.out) hb); replace HO_253002 := am (Kd.R_below (pR HO_253002.out) hb); replace HO_253003 := am (Kd.R_below (pR HO_253003.out) hb); replace HO_278001 := am (Kd.V_below (pV HO_278001.out) hb); replace HO_278002 := am (Kd.V_below (pV HO_278002.out) hb); replace HO_278003 := am (Kd.V_below (pV HO_278003.out) hb); replace HO_279001 := am (Kd.V_below (pV HO_279001.out) hb); replace HO_279002 := am (Kd.V_below (pV HO_279002.out) hb); replace HO_279003 := am (Kd.V_below (pV HO_279003.out) hb); replace BK207 := am (blk_below (pk BK207.out) hb); replace BK208 := am (blk_below (pk BK208.out) hb); replace BK240 := am (blk_below (pk BK240.out) hb); replace BK252 := am (blk_below (pk BK252.out) hb); replace BK277 := am (blk_below (pk BK277.out) hb); replace BK278 := am (blk_below (pk BK278.out) hb); replace HB := am (below_step (pB HB.out) hb); (try clear hb); (try clear hb2); (try clear hk); (try clear hi); have hnb128 := NB278_207.out; have hnc128 := NB207_278.out; have hnb129 := NB278_208.out; have hnc129 := NB208_278.out; have hnb130 := NB278_240.out; have hnc130 := NB240_278.out; have hnb131 := NB278_252.out; have hnc131 := NB252_278.out; obtain ⟨hcz132_0, hcz132_1, hcz132_2, hcz132_3⟩ := c4 BK278.out; obtain ⟨hfz132_0, hfz132_1, hfz132_2, hfz132_3⟩ := z4 BK278.out) | (go_at_call 23; have _t := tk1_; clear _t tk1_; (refine (peneloperef07_Like.calls kj72 t266 _ _ t267 _ _ t270 _ _ t273 false _ _ ([] : List ByteArray) _ _ ([] : List ByteArray) _ _ ([] : List Int) t281 _ ?side1 ?side2 ?side3 ?side4 ?side5 ?side6 ?side7 ?side8 ?side9 ?side10 ?side11 ?side12 A120.out).mono ?_); (case side1 => exact pC ((Kd.V_reads' HO_279001.out).2.2)); (case side2 => exact (Kd.V_reads' HO_279001.out).2.1); (case side3 => exact pC ((Kd.V_reads' HO_279002.out).2.2)); (case side4 => exact (Kd.V_reads' HO_279002.out).2.1); (case side5 => exact pC ((Kd.V_reads' HO_279003.out).2.2)); (case side6 => exact (Kd.V_reads' HO_279003.out).2.1); (case side7 => exact Kd.C_nil _ _); (case side8 => exact Nat.le_refl _); (case side9 => exact Kd.C_nil _ _); (case side10 => exact Nat.le_refl _); (case side11 => exact Kd.C_nil _ _); (case side12 => exact Nat.le_refl _); rintro e w133 ⟨rfl, hb⟩; replace HO_208001 := am (Kd.V_below (pV HO_208001.out) hb); replace HO_208002 := am (Kd.V_below (pV HO_208002.out) hb); replace HO_208003 := am (Kd.V_below (pV HO_208003.out) hb); replace HO_209001 := am (Kd.V_below (pV HO_209001.out) hb); replace HO_209002 := am (Kd.V_below (pV HO_209002.out) hb); replace HO_209003 := am (Kd.V_below (pV HO_209003.out) hb); replace HO_241001 := am (Kd.V_below (pV HO_241001.out) hb); replace HO_241002 := am (Kd.V_below (pV HO_241002.out) hb); replace HO_241003 := am (Kd.V_below (pV HO_241003.out) hb); replace HO_253001 := am (Kd.R_below (pR HO_253001.out) hb); replace HO_253002 := am (Kd.R_below (pR HO_253002.out) hb); replace HO_253003 := am (Kd.R_below (pR HO_253003.out) hb); replace HO_278001 := am (Kd.V_below (pV HO_278001.out) hb); replace HO_278002 := am (Kd.V_below (pV HO_278002.out) hb); replace HO_278003 := am (Kd.V_below (pV HO_278003.out) hb); replace HO_279001 := am (Kd.V_below (pV HO_279001.out) hb); replace HO_279002 := am (Kd.V_below (pV HO_279002.out) hb); replace HO_279003 := am (Kd.V_below (pV HO_279003.out) hb); replace BK207 := am (blk_below (pk BK207.out) hb); replace BK208 := am (blk_below (pk BK208.out) hb); replace BK240 := am (blk_below (pk BK240.out) hb); replace BK252 := am (blk_below (pk BK252.out) hb); replace BK277 := am (blk_below (pk BK277.out) hb); replace BK278 := am (blk_below (pk BK278.out) hb); replace HB := am (below_step (pB HB.out) hb); (try clear hb); (try clear hb2); (try clear hk); (try clear hi)))
          go_ret
          exact ⟨by first | rfl | (simp [errW_none, errW_some] <;> rfl) | (simp [*, errW_none, errW_some] <;> rfl), pB HB.out⟩
         ·
          replace c119 := Bool.eq_false_iff.mpr c119
          subst c119
          have H1 : (none) = some r := by rw [if_neg (show ¬ (false = true) by decide)] at H; exact H
          clear H
          have H := H1
          clear H1
          exact absurd H (by simp)
        ·
         rw [if_neg c117] at H
         exact absurd H (by simp)
       ·
        rw [if_neg c116] at H
        exact absurd H (by simp)
      ·
       replace c115 := Bool.eq_false_iff.mpr c115
       subst c115
       have H1 : ((peneloperef07_Cut.f kj72 t209 t210 t213 t216).bind fun bt282 => (if t276 = 0 then (if t265.toList = bt282.2.2.2.2.1.toList then ((peneloperef07_Like.f kj72 t255 t256 t259 t262 bt282.1 bt282.2.1 bt282.2.2.1 bt282.2.2.2.1).bind fun t305 => (if t305 = true then ((peneloperef07_Like.f kj72 t266 t267 t270 t273 bt282.2.2.2.2.2.1 bt282.2.2.2.2.2.2.1 bt282.2.2.2.2.2.2.2.1 bt282.2.2.2.2.2.2.2.2).bind fun t306 => (some t306)) else (none))) else (none)) else (none))) = some r := by rw [if_neg (show ¬ (false = true) by decide)] at H; exact H
       clear H
       have H := H1
       clear H1
       replace H := Option.bind_eq_some_iff.mp H
       obtain ⟨⟨t282, t283, t286, t289, t292, t293, t294, t297, t300⟩, A1340, H⟩ := H
       replace H : (if t276 = 0 then (if t265.toList = t292.toList then ((peneloperef07_Like.f kj72 t255 t256 t259 t262 t282 t283 t286 t289).bind fun t305 => (if t305 = true then ((peneloperef07_Like.f kj72 t266 t267 t270 t273 t293 t294 t297 t300).bind fun t306 => (some t306)) else (none))) else (none)) else (none)) = some r := H
       have A134 := am A1340
       clear A1340
       by_cases c135 : t276 = 0
       ·
        rw [if_pos c135] at H
        have c135b0 : (t276 == 0) = true := beq_iff_eq.mpr c135
        have c135b1 : (t276 != 0) = false := bne_eq_false_iff_eq.mpr c135
        clear c135
        by_cases c136 : t265.toList = t292.toList
        ·
         rw [if_pos c136] at H
         have c136b0 : (t265.toList == t292.toList) = true := beq_iff_eq.mpr c136
         have c136b1 : (t265.toList != t292.toList) = false := bne_eq_false_iff_eq.mpr c136
         clear c136
         replace H := Option.bind_eq_some_iff.mp H
         obtain ⟨t305, A1370, H⟩ := H
         replace H : (if t305 = true then ((peneloperef07_Like.f kj72 t266 t267 t270 t273 t293 t294 t297 t300).bind fun t306 => (some t306)) else (none)) = some r := H
         have A137 := am A1370
         clear A1370
         by_cases c138 : t305 = true
         ·
          subst c138
          have H1 : ((peneloperef07_Like.f kj72 t266 t267 t270 t273 t293 t294 t297 t300).bind fun t306 => (some t306)) = some r := by rw [if_pos rfl] at H; exact H
          clear H
          have H := H1
          clear H1
          replace H := Option.bind_eq_some_iff.mp H
          obtain ⟨t306, A1390, H⟩ := H
          replace H : (some t306) = some r := H
          have A139 := am A1390
          clear A1390
          obtain rfl := Option.some.inj H
          have hnb140 := NB207_208.out
          have hnc140 := NB208_207.out
          have hnb141 := NB207_240.out
          have hnc141 := NB240_207.out
          have hnb142 := NB207_252.out
          have hnc142 := NB252_207.out
          have hnb143 := NB207_277.out
          have hnc143 := NB277_207.out
          have hnb144 := NB207_278.out
          have hnc144 := NB278_207.out
          obtain ⟨hcz145_0, hcz145_1, hcz145_2, hcz145_3⟩ := c4 BK207.out
          obtain ⟨hfz145_0, hfz145_1, hfz145_2, hfz145_3⟩ := z4 BK207.out
          go_wp2_with (first | ((with_reducible refine gate_callee (f := 25) rfl ?_); refine goesL_ (some 83) rfl rfl Try.func25 (by kernel_rfl) rfl #[.agg #[.bool t209, .slice Ao15 t210.length co15, .slice Ao17 t213.length co17, .slice Ao19 t216.length co19]] rfl (by (try simp only [List.map_toArray, List.map_cons, List.map_nil]); first | done | rfl | (simp only [List.length_drop, List.length_take]; rfl)) ?_; (with_reducible refine (peneloperef07_Cut.calls kj72 t209 _ _ t210 _ _ t213 _ _ t216 t282 t283 t286 t289 t292 t293 t294 t297 t300 _ ?side1 ?side2 ?side3 ?side4 ?side5 ?side6 A134.out).mono ?_); (case side1 => exact pC ((Kd.V_reads' HO_208001.out).2.2)); (case side2 => exact (Kd.V_reads' HO_208001.out).2.1); (case side3 => exact pC ((Kd.V_reads' HO_208002.out).2.2)); (case side4 => exact (Kd.V_reads' HO_208002.out).2.1); (case side5 => exact pC ((Kd.V_reads' HO_208003.out).2.2)); (case side6 => exact (Kd.V_reads' HO_208003.out).2.1); rintro e w146 ⟨v284, v287, v290, v295, v298, v301, rfl, ho0, ho1, ho2, ho3, ho4, ho5, hb⟩; refine ⟨_, rfl, ?_⟩; replace HO_208001 := am (Kd.V_mono (Kd.V_told (Kd.V_told (Kd.V_told (Kd.V_told (Kd.V_told (Kd.V_told (Kd.V_old (pV HO_208001.out) hb) (Kd.R_base ho0)) (Kd.R_base ho1)) (Kd.R_base ho2)) (Kd.R_base ho3)) (Kd.R_base ho4)) (Kd.R_base ho5)) (fun _ h_ => h_.1)); replace HO_208002 := am (Kd.V_mono (Kd.V_told (Kd.V_told (Kd.V_told (Kd.V_told (Kd.V_told (Kd.V_told (Kd.V_old (pV HO_208002.out) hb) (Kd.R_base ho0)) (Kd.R_base ho1)) (Kd.R_base ho2)) (Kd.R_base ho3)) (Kd.R_base ho4)) (Kd.R_base ho5)) (fun _ h_ => h_.1)); replace HO_208003 := am (Kd.V_mono (Kd.V_told (Kd.V_told (Kd.V_told (Kd.V_told (Kd.V_told (Kd.V_told (Kd.V_old (pV HO_208003.out) hb) (Kd.R_base ho0)) (Kd.R_base ho1)) (Kd.R_base ho2)) (Kd.R_base ho3)) (Kd.R_base ho4)) (Kd.R_base ho5)) (fun _ h_ => h_.1)); replace HO_209001 := am (Kd.V_mono (Kd.V_told (Kd.V_told (Kd.V_told (Kd.V_told (Kd.V_told (Kd.V_told (Kd.V_old (pV HO_209001.out) hb) (Kd.R_base ho0)) (Kd.R_base ho1)) (Kd.R_base ho2)) (Kd.R_base ho3)) (Kd.R_base ho4)) (Kd.R_base ho5)) (fun _ h_ => h_.1)); replace HO_209002 := am (Kd.V_mono (Kd.V_told (Kd.V_told (Kd.V_told (Kd.V_told (Kd.V_told (Kd.V_told (Kd.V_old (pV HO_209002.out) hb) (Kd.R_base ho0)) (Kd.R_base ho1)) (Kd.R_base ho2)) (Kd.R_base ho3)) (Kd.R_base ho4)) (Kd.R_base ho5)) (fun _ h_ => h_.1)); replace HO_209003 := am (Kd.V_mono (Kd.V_told (Kd.V_told (Kd.V_told (Kd.V_told (Kd.V_told (Kd.V_told (Kd.V_old (pV HO_209003.out) hb) (Kd.R_base ho0)) (Kd.R_base ho1)) (Kd.R_base ho2)) (Kd.R_base ho3)) (Kd.R_base ho4)) (Kd.R_base ho5)) (fun _ h_ => h_.1)); replace HO_241001 := am (Kd.V_mono (Kd.V_told (Kd.V_told (Kd.V_told (Kd.V_told (Kd.V_told (Kd.V_told (Kd.V_old (pV HO_241001.out) hb) (Kd.R_base ho0)) (Kd.R_base ho1)) (Kd.R_base ho2)) (Kd.R_base ho3)) (Kd.R_base ho4)) (Kd.R_base ho5)) (fun _ h_ => h_.1)); replace HO_241002 := am (Kd.V_mono (Kd.V_told (Kd.V_told (Kd.V_told (Kd.V_told (Kd.V_told (Kd.V_told (Kd.V_old (pV HO_241002.out) hb) (Kd.R_base ho0)) (Kd.R_base ho1)) (Kd.R_base ho2)) (Kd.R_base ho3)) (Kd.R_base ho4)) (Kd.R_base ho5)) (fun _ h_ => h_.1)); replace HO_241003 := am (Kd.V_mono (Kd.V_told (Kd.V_told (Kd.V_told (Kd.V_told (Kd.V_told (Kd.V_told (Kd.V_old (pV HO_241003.out) hb) (Kd.R_base ho0)) (Kd.R_base ho1)) (Kd.R_base ho2)) (Kd.R_base ho3)) (Kd.R_base ho4)) (Kd.R_base ho5)) (fun _ h_ => h_.1)); replace HO_278001 := am (Kd.V_mono (Kd.V_told (Kd.V_told (Kd.V_told (Kd.V_told (Kd.V_told (Kd.V_told (Kd.V_old (pV HO_278001.out) hb) (Kd.R_base ho0)) (Kd.R_base ho1)) (Kd.R_base ho2)) (Kd.R_base ho3)) (Kd.R_base ho4)) (Kd.R_base ho5)) (fun _ h_ => h_.1)); replace HO_278002 := am (Kd.V_mono (Kd.V_told (Kd.V_told (Kd.V_told (Kd.V_told (Kd.V_told (Kd.V_told (Kd.V_old (pV HO_278002.out) hb) (Kd.R_base ho0)) (Kd.R_base ho1)) (Kd.R_base ho2)) (Kd.R_base ho3)) (Kd.R_base ho4)) (Kd.R_base ho5)) (fun _ h_ => h_.1)); replace HO_278003 := am (Kd.V_mono (Kd.V_told (Kd.V_told (Kd.V_told (Kd.V_told (Kd.V_told (Kd.V_told (Kd.V_old (pV HO_278003.out) hb) (Kd.R_base ho0)) (Kd.R_base ho1)) (Kd.R_base ho2)) (Kd.R_base ho3)) (Kd.R_base ho4)) (Kd.R_base ho5)) (fun _ h_ => h_.1)); replace HO_279001 := am (Kd.V_mono (Kd.V_told (Kd.V_told (Kd.V_told (Kd.V_told (Kd.V_told (Kd.V_told (Kd.V_old (pV HO_279001.out) hb) (Kd.R_base ho0)) (Kd.R_base ho1)) (Kd.R_base ho2)) (Kd.R_base ho3)) (Kd.R_base ho4)) (Kd.R_base ho5)) (fun _ h_ => h_.1)); replace HO_279002 := am (Kd.V_mono (Kd.V_told (Kd.V_told (Kd.V_told (Kd.V_told (Kd.V_told (Kd.V_told (Kd.V_old (pV HO_279002.out) hb) (Kd.R_base ho0)) (Kd.R_base ho1)) (Kd.R_base ho2)) (Kd.R_base ho3)) (Kd.R_base ho4)) (Kd.R_base ho5)) (fun _ h_ => h_.1)); replace HO_279003 := am (Kd.V_mono (Kd.V_told (Kd.V_told (Kd.V_told (Kd.V_told (Kd.V_told (Kd.V_told (Kd.V_old (pV HO_279003.out) hb) (Kd.R_base ho0)) (Kd.R_base ho1)) (Kd.R_base ho2)) (Kd.R_base ho3)) (Kd.R_base ho4)) (Kd.R_base ho5)) (fun _ h_ => h_.1)); have HO285 := am (Kd.R_lower (Kd.R_new' (Kd.R_new' ho0 (Kd.R_lt (pR HO_253001.out))) (Kd.R_lt (pR HO_253002.out))) (below_size (pB HB.out))); have HO288 := am (Kd.R_lower (Kd.R_new' (Kd.R_new' ho1 (Kd.R_lt (pR HO_253001.out))) (Kd.R_lt (pR HO_253002.out))) (below_size (pB HB.out))); have HO291 := am (Kd.R_lower (Kd.R_new' ho2 (Kd.R_lt (pR HO_253003.out))) (below_size (pB HB.out))); have HO296 := am (Kd.R_lower (Kd.R_new' (Kd.R_new' ho3 (Kd.R_lt (pR HO_253001.out))) (Kd.R_lt (pR HO_253002.out))) (below_size (pB HB.out))); have HO299 := am (Kd.R_lower (Kd.R_new' (Kd.R_new' ho4 (Kd.R_lt (pR HO_253001.out))) (Kd.R_lt (pR HO_253002.out))) (below_size (pB HB.out))); replace HO_253001 := am (Kd.R_mono (Kd.R_told (Kd.R_told (Kd.R_told (Kd.R_told (Kd.R_old (pR HO_253001.out) hb) (Kd.R_base ho0)) (Kd.R_base ho1)) (Kd.R_base ho3)) (Kd.R_base ho4)) (fun _ h_ => h_.1)); replace HO_253002 := am (Kd.R_mono (Kd.R_told (Kd.R_told (Kd.R_told (Kd.R_told (Kd.R_old (pR HO_253002.out) hb) (Kd.R_base ho0)) (Kd.R_base ho1)) (Kd.R_base ho3)) (Kd.R_base ho4)) (fun _ h_ => h_.1)); have HO302 := am (Kd.R_lower (Kd.R_new' ho5 (Kd.R_lt (pR HO_253003.out))) (below_size (pB HB.out))); replace HO_253003 := am (Kd.R_mono (Kd.R_told (Kd.R_told (Kd.R_old (pR HO_253003.out) hb) (Kd.R_base ho2)) (Kd.R_base ho5)) (fun _ h_ => h_.1)); replace BK207 := am (blk_below (pk BK207.out) hb); replace BK208 := am (blk_below (pk BK208.out) hb); replace BK240 := am (blk_below (pk BK240.out) hb); replace BK252 := am (blk_below (pk BK252.out) hb); replace BK277 := am (blk_below (pk BK277.out) hb); replace BK278 := am (blk_below (pk BK278.out) hb); replace HB := am (below_step (pB HB.out) hb); (try clear hb); (try clear hb2); (try clear hk); (try clear hi); (try clear ho0); (try clear ho1); (try clear ho2); (try clear ho3); (try clear ho4); (try clear ho5)) | ((with_reducible refine gate_dst (N := 15) rfl ?_); (try (refine gate_guard (by rfl) ?_; dsimp only)); refine bx 15 #[.bool false, .slice none 0 0, .slice none 0 0, .slice none 0 0] 25 ?_; intro gb303 hg w147 hbox hb; replace HO_208001 := am (Kd.V_below (Kd.V_elderB (pV HO_208001.out) gb303 (Nat.le_of_eq hg.symm)) hb); replace HO_208002 := am (Kd.V_below (Kd.V_elderB (pV HO_208002.out) gb303 (Nat.le_of_eq hg.symm)) hb); replace HO_208003 := am (Kd.V_below (Kd.V_elderB (pV HO_208003.out) gb303 (Nat.le_of_eq hg.symm)) hb); replace HO_209001 := am (Kd.V_below (Kd.V_elderB (pV HO_209001.out) gb303 (Nat.le_of_eq hg.symm)) hb); replace HO_209002 := am (Kd.V_below (Kd.V_elderB (pV HO_209002.out) gb303 (Nat.le_of_eq hg.symm)) hb); replace HO_209003 := am (Kd.V_below (Kd.V_elderB (pV HO_209003.out) gb303 (Nat.le_of_eq hg.symm)) hb); replace HO_241001 := am (Kd.V_below (Kd.V_elderB (pV HO_241001.out) gb303 (Nat.le_of_eq hg.symm)) hb); replace HO_241002 := am (Kd.V_below (Kd.V_elderB (pV HO_241002.out) gb303 (Nat.le_of_eq hg.symm)) hb); replace HO_241003 := am (Kd.V_below (Kd.V_elderB (pV HO_241003.out) gb303 (Nat.le_of_eq hg.symm)) hb); replace HO_253001 := am (Kd.R_below (pR HO_253001.out) hb); replace HO_253002 := am (Kd.R_below (pR HO_253002.out) hb); replace HO_253003 := am (Kd.R_below (pR HO_253003.out) hb); replace HO_278001 := am (Kd.V_below (Kd.V_elderB (pV HO_278001.out) gb303 (Nat.le_of_eq hg.symm)) hb); replace HO_278002 := am (Kd.V_below (Kd.V_elderB (pV HO_278002.out) gb303 (Nat.le_of_eq hg.symm)) hb); replace HO_278003 := am (Kd.V_below (Kd.V_elderB (pV HO_278003.out) gb303 (Nat.le_of_eq hg.symm)) hb); replace HO_279001 := am (Kd.V_below (Kd.V_elderB (pV HO_279001.out) gb303 (Nat.le_of_eq hg.symm)) hb); replace HO_279002 := am (Kd.V_below (Kd.V_elderB (pV HO_279002.out) gb303 (Nat.le_of_eq hg.symm)) hb); replace HO_279003 := am (Kd.V_below (Kd.V_elderB (pV HO_279003.out) gb303 (Nat.le_of_eq hg.symm)) hb); replace HO285 := am (Kd.R_below (pR HO285.out) hb); replace HO288 := am (Kd.R_below (pR HO288.out) hb); replace HO291 := am (Kd.R_below (pR HO291.out) hb); replace HO296 := am (Kd.R_below (pR HO296.out) hb); replace HO299 := am (Kd.R_below (pR HO299.out) hb); replace HO302 := am (Kd.R_below (pR HO302.out) hb); have BK303 := am (hbox); have GW303 := am (gs hg (pB HB.out)); have GE303 := am (gs hg (pB HB.out)); replace HB := am (below_step (pB HB.out) hb); have NB207_303 := am (nl hg (pk BK207.out)); have NB303_207 := am (ng hg (pk BK207.out)); replace BK207 := am (blk_below (pk BK207.out) hb); have NB208_303 := am (nl hg (pk BK208.out)); have NB303_208 := am (ng hg (pk BK208.out)); replace BK208 := am (blk_below (pk BK208.out) hb); have NB240_303 := am (nl hg (pk BK240.out)); have NB303_240 := am (ng hg (pk BK240.out)); replace BK240 := am (blk_below (pk BK240.out) hb); have NB252_303 := am (nl hg (pk BK252.out)); have NB303_252 := am (ng hg (pk BK252.out)); replace BK252 := am (blk_below (pk BK252.out) hb); have NB277_303 := am (nl hg (pk BK277.out)); have NB303_277 := am (ng hg (pk BK277.out)); replace BK277 := am (blk_below (pk BK277.out) hb); have NB278_303 := am (nl hg (pk BK278.out)); have NB303_278 := am (ng hg (pk BK278.out)); replace BK278 := am (blk_below (pk BK278.out) hb); clear hb hbox hg) | ((with_reducible refine gate_dst (N := 17) rfl ?_); (try (refine gate_guard (by rfl) ?_; dsimp only)); refine bx 17 #[.bool false, .slice none 0 0, .slice none 0 0, .slice none 0 0] 25 ?_; intro gb304 hg w148 hbox hb; replace HO_208001 := am (Kd.V_below (Kd.V_elderB (pV HO_208001.out) gb304 (Nat.le_of_eq hg.symm)) hb); replace HO_208002 := am (Kd.V_below (Kd.V_elderB (pV HO_208002.out) gb304 (Nat.le_of_eq hg.symm)) hb); replace HO_208003 := am (Kd.V_below (Kd.V_elderB (pV HO_208003.out) gb304 (Nat.le_of_eq hg.symm)) hb); replace HO_209001 := am (Kd.V_below (Kd.V_elderB (pV HO_209001.out) gb304 (Nat.le_of_eq hg.symm)) hb); replace HO_209002 := am (Kd.V_below (Kd.V_elderB (pV HO_209002.out) gb304 (Nat.le_of_eq hg.symm)) hb); replace HO_209003 := am (Kd.V_below (Kd.V_elderB (pV HO_209003.out) gb304 (Nat.le_of_eq hg.symm)) hb); replace HO_241001 := am (Kd.V_below (Kd.V_elderB (pV HO_241001.out) gb304 (Nat.le_of_eq hg.symm)) hb); replace HO_241002 := am (Kd.V_below (Kd.V_elderB (pV HO_241002.out) gb304 (Nat.le_of_eq hg.symm)) hb); replace HO_241003 := am (Kd.V_below (Kd.V_elderB (pV HO_241003.out) gb304 (Nat.le_of_eq hg.symm)) hb); replace HO_253001 := am (Kd.R_below (pR HO_253001.out) hb); replace HO_253002 := am (Kd.R_below (pR HO_253002.out) hb); replace HO_253003 := am (Kd.R_below (pR HO_253003.out) hb); replace HO_278001 := am (Kd.V_below (Kd.V_elderB (pV HO_278001.out) gb304 (Nat.le_of_eq hg.symm)) hb); replace HO_278002 := am (Kd.V_below (Kd.V_elderB (pV HO_278002.out) gb304 (Nat.le_of_eq hg.symm)) hb); replace HO_278003 := am (Kd.V_below (Kd.V_elderB (pV HO_278003.out) gb304 (Nat.le_of_eq hg.symm)) hb); replace HO_279001 := am (Kd.V_below (Kd.V_elderB (pV HO_279001.out) gb304 (Nat.le_of_eq hg.symm)) hb); replace HO_279002 := am (Kd.V_below (Kd.V_elderB (pV HO_279002.out) gb304 (Nat.le_of_eq hg.symm)) hb); replace HO_279003 := am (Kd.V_below (Kd.V_elderB (pV HO_279003.out) gb304 (Nat.le_of_eq hg.symm)) hb); replace HO285 := am (Kd.R_below (pR HO285.out) hb); replace HO288 := am (Kd.R_below (pR HO288.out) hb); replace HO291 := am (Kd.R_below (pR HO291.out) hb); replace HO296 := am (Kd.R_below (pR HO296.out) hb); replace HO299 := am (Kd.R_below (pR HO299.out) hb); replace HO302 := am (Kd.R_below (pR HO302.out) hb); have BK304 := am (hbox); have GW304 := am (gs hg (pB HB.out)); have GE304 := am (gs hg (pB HB.out)); replace HB := am (below_step (pB HB.out) hb); have NB207_304 := am (nl hg (pk BK207.out)); have NB304_207 := am (ng hg (pk BK207.out)); replace BK207 := am (blk_below (pk BK207.out) hb); have NB208_304 := am (nl hg (pk BK208.out)); have NB304_208 := am (ng hg (pk BK208.out)); replace BK208 := am (blk_below (pk BK208.out) hb); have NB240_304 := am (nl hg (pk BK240.out)); have NB304_240 := am (ng hg (pk BK240.out)); replace BK240 := am (blk_below (pk BK240.out) hb); have NB252_304 := am (nl hg (pk BK252.out)); have NB304_252 := am (ng hg (pk BK252.out)); replace BK252 := am (blk_below (pk BK252.out) hb); have NB277_304 := am (nl hg (pk BK277.out)); have NB304_277 := am (ng hg (pk BK277.out)); replace BK277 := am (blk_below (pk BK277.out) hb); have NB278_304 := am (nl hg (pk BK278.out)); have NB304_278 := am (ng hg (pk BK278.out)); replace BK278 := am (blk_below (pk BK278.out) hb); have NB303_304 := am (nl hg (pk BK303.out)); have NB304_303 := am (ng hg (pk BK303.out)); replace BK303 := am (blk_below (pk BK303.out) hb); clear hb hbox hg; have hnb149 := NB303_207.out; have hnc149 := NB207_303.out; have hnb150 := NB303_208.out; have hnc150 := NB208_303.out; have hnb151 := NB303_240.out; have hnc151 := NB240_303.out; have hnb152 := NB303_252.out; have hnc152 := NB252_303.out; have hnb153 := NB303_277.out; have hnc153 := NB277_303.out; have hnb154 := NB303_278.out; have hnc154 := NB278_303.out; have hnb155 := NB303_304.out; have hnc155 := NB304_303.out; obtain ⟨hcz156_0, hcz156_1, hcz156_2, hcz156_3⟩ := c4 BK303.out; obtain ⟨hfz156_0, hfz156_1, hfz156_2, hfz156_3⟩ := z4 BK303.out; obtain ⟨Ao157, co157, eo157⟩ := Kd.R_slice HO285.out; subst eo157; obtain ⟨Ao158, co158, eo158⟩ := Kd.R_slice HO288.out; subst eo158; obtain ⟨Ao159, co159, eo159⟩ := Kd.R_slice HO291.out; subst eo159; have hnb160 := NB304_207.out; have hnc160 := NB207_304.out; have hnb161 := NB304_208.out; have hnc161 := NB208_304.out; have hnb162 := NB304_240.out; have hnc162 := NB240_304.out; have hnb163 := NB304_252.out; have hnc163 := NB252_304.out; have hnb164 := NB304_277.out; have hnc164 := NB277_304.out; have hnb165 := NB304_278.out; have hnc165 := NB278_304.out; obtain ⟨hcz166_0, hcz166_1, hcz166_2, hcz166_3⟩ := c4 BK304.out; obtain ⟨hfz166_0, hfz166_1, hfz166_2, hfz166_3⟩ := z4 BK304.out; obtain ⟨Ao167, co167, eo167⟩ := Kd.R_slice HO296.out; subst eo167; obtain ⟨Ao168, co168, eo168⟩ := Kd.R_slice HO299.out; subst eo168; obtain ⟨Ao169, co169, eo169⟩ := Kd.R_slice HO302.out; subst eo169; have hnb170 := NB277_208.out; have hnc170 := NB208_277.out; have hnb171 := NB277_240.out; have hnc171 := NB240_277.out; have hnb172 := NB277_252.out; have hnc172 := NB252_277.out; have hnb173 := NB277_278.out; have hnc173 := NB278_277.out; obtain ⟨hcz174_0, hcz174_1, hcz174_2, hcz174_3⟩ := c4 BK277.out; obtain ⟨hfz174_0, hfz174_1, hfz174_2, hfz174_3⟩ := z4 BK277.out) | (go_at_call 23; (with_reducible refine (peneloperef07_Like.calls kj72 t255 _ _ t256 _ _ t259 _ _ t262 t282 _ _ t283 _ _ t286 _ _ t289 true _ ?side1 ?side2 ?side3 ?side4 ?side5 ?side6 ?side7 ?side8 ?side9 ?side10 ?side11 ?side12 A137.out).mono ?_); (case side1 => exact (Kd.V_reads' (pV HO_278001.out)).2.2); (case side2 => exact (Kd.V_reads' HO_278001.out).2.1); (case side3 => exact (Kd.V_reads' (pV HO_278002.out)).2.2); (case side4 => exact (Kd.V_reads' HO_278002.out).2.1); (case side5 => exact (Kd.V_reads' (pV HO_278003.out)).2.2); (case side6 => exact (Kd.V_reads' HO_278003.out).2.1); (case side7 => exact (Kd.R_reads' ((Kd.R_mono (Kd.R_mono (pR (Kd.R_types (Kd.R_types HO285.out BK303.out (by decide)) BK304.out (by decide))) (fun _ h_ => h_.1)) (fun _ h_ => h_.1)))).2.2); (case side8 => exact (Kd.R_reads' HO285.out).2.1); (case side9 => exact (Kd.R_reads' ((Kd.R_mono (Kd.R_mono (pR (Kd.R_types (Kd.R_types HO288.out BK303.out (by decide)) BK304.out (by decide))) (fun _ h_ => h_.1)) (fun _ h_ => h_.1)))).2.2); (case side10 => exact (Kd.R_reads' HO288.out).2.1); (case side11 => exact (Kd.R_reads' ((Kd.R_mono (Kd.R_mono (pR (Kd.R_types (Kd.R_types HO291.out BK303.out (by decide)) BK304.out (by decide))) (fun _ h_ => h_.1)) (fun _ h_ => h_.1)))).2.2); (case side12 => exact (Kd.R_reads' HO291.out).2.1); rintro e w175 ⟨rfl, hb⟩; replace HO_208001 := am (Kd.V_below (pV HO_208001.out) hb); replace HO_208002 := am (Kd.V_below (pV HO_208002.out) hb); replace HO_208003 := am (Kd.V_below (pV HO_208003.out) hb); replace HO_209001 := am (Kd.V_below (pV HO_209001.out) hb); replace HO_209002 := am (Kd.V_below (pV HO_209002.out) hb); replace HO_209003 := am (Kd.V_below (pV HO_209003.out) hb); replace HO_241001 := am (Kd.V_below (pV HO_241001.out) hb); replace HO_241002 := am (Kd.V_below (pV HO_241002.out) hb); replace HO_241003 := am (Kd.V_below (pV HO_241003.out) hb); replace HO_253001 := am (Kd.R_below ((Kd.R_mono (Kd.R_mono (pR (Kd.R_types (Kd.R_types HO_253001.out BK303.out (by decide)) BK304.out (by decide))) (fun _ h_ => h_.1)) (fun _ h_ => h_.1))) hb); replace HO_253002 := am (Kd.R_below ((Kd.R_mono (Kd.R_mono (pR (Kd.R_types (Kd.R_types HO_253002.out BK303.out (by decide)) BK304.out (by decide))) (fun _ h_ => h_.1)) (fun _ h_ => h_.1))) hb); replace HO_253003 := am (Kd.R_below ((Kd.R_mono (Kd.R_mono (pR (Kd.R_types (Kd.R_types HO_253003.out BK303.out (by decide)) BK304.out (by decide))) (fun _ h_ => h_.1)) (fun _ h_ => h_.1))) hb); replace HO_278001 := am (Kd.V_below (pV HO_278001.out) hb); replace HO_278002 := am (Kd.V_below (pV HO_278002.out) hb); replace HO_278003 := am (Kd.V_below (pV HO_278003.out) hb); replace HO_279001 := am (Kd.V_below (pV HO_279001.out) hb); replace HO_279002 := am (Kd.V_below (pV HO_279002.out) hb); replace HO_279003 := am (Kd.V_below (pV HO_279003.out) hb); replace HO285 := am (Kd.R_below ((Kd.R_mono (Kd.R_mono (pR (Kd.R_types (Kd.R_types HO285.out BK303.out (by decide)) BK304.out (by decide))) (fun _ h_ => h_.1)) (fun _ h_ => h_.1))) hb); replace HO288 := am (Kd.R_below ((Kd.R_mono (Kd.R_mono (pR (Kd.R_types (Kd.R_types HO288.out BK303.out (by decide)) BK304.out (by decide))) (fun _ h_ => h_.1)) (fun _ h_ => h_.1))) hb); replace HO291 := am (Kd.R_below ((Kd.R_mono (Kd.R_mono (pR (Kd.R_types (Kd.R_types HO291.out BK303.out (by decide)) BK304.out (by decide))) (fun _ h_ => h_.1)) (fun _ h_ => h_.1))) hb); replace HO296 := am (Kd.R_below ((Kd.R_mono (Kd.R_mono (pR (Kd.R_types (Kd.R_types HO296.out BK303.out (by decide)) BK304.out (by decide))) (fun _ h_ => h_.1)) (fun _ h_ => h_.1))) hb); replace HO299 := am (Kd.R_below ((Kd.R_mono (Kd.R_mono (pR (Kd.R_types (Kd.R_types HO299.out BK303.out (by decide)) BK304.out (by decide))) (fun _ h_ => h_.1)) (fun _ h_ => h_.1))) hb); replace HO302 := am (Kd.R_below ((Kd.R_mono (Kd.R_mono (pR (Kd.R_types (Kd.R_types HO302.out BK303.out (by decide)) BK304.out (by decide))) (fun _ h_ => h_.1)) (fun _ h_ => h_.1))) hb); replace BK207 := am (blk_below (pk BK207.out) hb); replace BK208 := am (blk_below (pk BK208.out) hb); replace BK240 := am (blk_below (pk BK240.out) hb); replace BK252 := am (blk_below (pk BK252.out) hb); replace BK277 := am (blk_below (pk BK277.out) hb); replace BK278 := am (blk_below (pk BK278.out) hb); replace BK303 := am (blk_below (g := gb303) (o := .cells #[.bool t282, .slice Ao157 t283.length co157, .slice Ao158 t286.length co158, .slice Ao159 t289.length co159] 25 (0, 0)) (pP BK303.out) hb); replace BK304 := am (blk_below (g := gb304) (o := .cells #[.bool t293, .slice Ao167 t294.length co167, .slice Ao168 t297.length co168, .slice Ao169 t300.length co169] 25 (0, 0)) (pP BK304.out) hb); replace HB := am (below_step (pB HB.out) hb); (try clear hb); (try clear hb2); (try clear hk); (try clear hi); have hnb176 := NB278_208.out; have hnc176 := NB208_278.out; have hnb177 := NB278_240.out; have hnc177 := NB240_278.out; have hnb178 := NB278_252.out; have hnc178 := NB252_278.out; obtain ⟨hcz179_0, hcz179_1, hcz179_2, hcz179_3⟩ := c4 BK278.out; obtain ⟨hfz179_0, hfz179_1, hfz179_2, hfz179_3⟩ := z4 BK278.out; obtain ⟨hcz180_0, hcz180_1, hcz180_2, hcz180_3⟩ := c4 BK304.out; obtain ⟨hfz180_0, hfz180_1, hfz180_2, hfz180_3⟩ := z4 BK304.out) | (go_at_call 23; (with_reducible refine (peneloperef07_Like.calls kj72 t266 _ _ t267 _ _ t270 _ _ t273 t293 _ _ t294 _ _ t297 _ _ t300 t306 _ ?side1 ?side2 ?side3 ?side4 ?side5 ?side6 ?side7 ?side8 ?side9 ?side10 ?side11 ?side12 A139.out).mono ?_); (case side1 => exact pC ((Kd.V_reads' HO_279001.out).2.2)); (case side2 => exact (Kd.V_reads' HO_279001.out).2.1); (case side3 => exact pC ((Kd.V_reads' HO_279002.out).2.2)); (case side4 => exact (Kd.V_reads' HO_279002.out).2.1); (case side5 => exact pC ((Kd.V_reads' HO_279003.out).2.2)); (case side6 => exact (Kd.V_reads' HO_279003.out).2.1); (case side7 => exact pC ((Kd.R_reads' HO296.out).2.2)); (case side8 => exact (Kd.R_reads' HO296.out).2.1); (case side9 => exact pC ((Kd.R_reads' HO299.out).2.2)); (case side10 => exact (Kd.R_reads' HO299.out).2.1); (case side11 => exact pC ((Kd.R_reads' HO302.out).2.2)); (case side12 => exact (Kd.R_reads' HO302.out).2.1); rintro e w181 ⟨rfl, hb⟩; replace HO_208001 := am (Kd.V_below (pV HO_208001.out) hb); replace HO_208002 := am (Kd.V_below (pV HO_208002.out) hb); replace HO_208003 := am (Kd.V_below (pV HO_208003.out) hb); replace HO_209001 := am (Kd.V_below (pV HO_209001.out) hb); replace HO_209002 := am (Kd.V_below (pV HO_209002.out) hb); replace HO_209003 := am (Kd.V_below (pV HO_209003.out) hb); replace HO_241001 := am (Kd.V_below (pV HO_241001.out) hb); replace HO_241002 := am (Kd.V_below (pV HO_241002.out) hb); replace HO_241003 := am (Kd.V_below (pV HO_241003.out) hb); replace HO_253001 := am (Kd.R_below (pR HO_253001.out) hb); replace HO_253002 := am (Kd.R_below (pR HO_253002.out) hb); replace HO_253003 := am (Kd.R_below (pR HO_253003.out) hb); replace HO_278001 := am (Kd.V_below (pV HO_278001.out) hb); replace HO_278002 := am (Kd.V_below (pV HO_278002.out) hb); replace HO_278003 := am (Kd.V_below (pV HO_278003.out) hb); replace HO_279001 := am (Kd.V_below (pV HO_279001.out) hb); replace HO_279002 := am (Kd.V_below (pV HO_279002.out) hb); replace HO_279003 := am (Kd.V_below (pV HO_279003.out) hb); replace HO285 := am (Kd.R_below (pR HO285.out) hb); replace HO288 := am (Kd.R_below (pR HO288.out) hb); replace HO291 := am (Kd.R_below (pR HO291.out) hb); replace HO296 := am (Kd.R_below (pR HO296.out) hb); replace HO299 := am (Kd.R_below (pR HO299.out) hb); replace HO302 := am (Kd.R_below (pR HO302.out) hb); replace BK207 := am (blk_below (pk BK207.out) hb); replace BK208 := am (blk_below (pk BK208.out) hb); replace BK240 := am (blk_below (pk BK240.out) hb); replace BK252 := am (blk_below (pk BK252.out) hb); replace BK277 := am (blk_below (pk BK277.out) hb); replace BK278 := am (blk_below (pk BK278.out) hb); replace BK303 := am (blk_below (pk BK303.out) hb); replace BK304 := am (blk_below (pk BK304.out) hb); replace HB := am (below_step (pB HB.out) hb); (try clear hb); (try clear hb2); (try clear hk); (try clear hi)))
          go_ret
          exact ⟨by first | rfl | (simp [errW_none, errW_some] <;> rfl) | (simp [*, errW_none, errW_some] <;> rfl), pB HB.out⟩
         ·
          replace c138 := Bool.eq_false_iff.mpr c138
          subst c138
          have H1 : (none) = some r := by rw [if_neg (show ¬ (false = true) by decide)] at H; exact H
          clear H
          have H := H1
          clear H1
          exact absurd H (by simp)
        ·
         rw [if_neg c136] at H
         exact absurd H (by simp)
       ·
        rw [if_neg c135] at H
        exact absurd H (by simp)

end Go.Proofs.Ytmnkabdaapiikaa.C
