/- Words and walks for the law RunTwo, joined and made small by a program of mine. -/
import Derived.Test.YtabmkighhmchmaaE2
import Derived.Test.YtabmkighhmchmaaE5
import Derived.Test.YtabmkighhmchmaaE6
import Derived.Test.YtabmkighhmchmaaE7
import Derived.Test.YtabmkighhmchmaaE8
import Derived.Test.YtabmkighhmchmaaE9
import Derived.Test.YtabmkighhmchmaaE3
import Derived.Test.YtabmkighhmchmaaE4
import Derived.OpenShut
import Derived.Lib.Strings
namespace Go.Proofs.Ytabmkighhmchmaa.X
open Go.RowKit Go.Proofs.YtabmkighhmchmaaW.PrintWords Go.Proofs.YtabmkighhmchmaaW.PrintLast Go.Proofs.YtabmkighhmchmaaW.PrintMore Go.Proofs.YtabmkighhmchmaaW.Sq
attribute [local go_sem] max2_int min2_int max_two min_two max_three min_three max_four min_four
set_option linter.unusedVariables false
set_option linter.unusedSimpArgs false
mutual
def Fg.j0 : Nat → Int → Int → Int → Bool → ByteArray → ByteArray → List (S49) → Int → List (S51) → ByteArray → ByteArray → List (S49) → Int → List (S51) → ByteArray → ByteArray → List (S49) → Int → List (S51) → Option (Bool)
 | 0, _, _, _, _, _, _, _, _, _, _, _, _, _, _, _, _, _, _, _ => none
 | k + 1, x1, x2, x3, x56, x725000, x725001, x725002, x725003, x725004, x747000, x747001, x747002, x747003, x747004, x758000, x758001, x758002, x758003, x758004 => if x56 = true then ((F5.f k x747000 x747001 x747002 x747003 x747004 x1 x3 (⟨#[121]⟩ : ByteArray)).bind fun bt758 => ((F5.f k x758000 x758001 x758002 x758003 x758004 x1 x2 (⟨#[120]⟩ : ByteArray)).bind fun bt769 => (if bt758.2.2.2.2.2 = 0 then (if bt769.2.2.2.2.2 = 0 then ((Fz.f k bt758.1 bt758.2.1 bt758.2.2.1 bt758.2.2.2.1 bt758.2.2.2.2.1 bt769.1 bt769.2.1 bt769.2.2.1 bt769.2.2.2.1 bt769.2.2.2.2.1).bind fun t780 => (if t780 = true then (Fg.j1 k x1 x2 x725000 x725001 x725002 x725003 x725004) else (none))) else (none)) else (none)))) else (Fg.j1 k x1 x2 x725000 x725001 x725002 x725003 x725004)
def Fg.j1 : Nat → Int → Int → ByteArray → ByteArray → List (S49) → Int → List (S51) → Option (Bool)
 | 0, _, _, _, _, _, _, _ => none
 | k + 1, x1, x2, x725000, x725001, x725002, x725003, x725004 => (F9.f k x725000 x725001 x725002 x725003 x725004 x1).bind fun bt781 => (if bt781.2.2.2.2.2 = 0 then ((Gh.f k bt781.1 bt781.2.1 bt781.2.2.1 bt781.2.2.2.1 bt781.2.2.2.2.1 x1 1073741824).bind fun bt793 => ((F5.f k bt781.1 bt781.2.1 bt781.2.2.1 bt781.2.2.2.1 bt781.2.2.2.2.1 x1 x2 (⟨#[120]⟩ : ByteArray)).bind fun bt805 => ((F9.f k bt781.1 bt781.2.1 bt781.2.2.1 bt781.2.2.2.1 bt781.2.2.2.2.1 x1).bind fun bt816 => ((Fv.f k).bind fun t827 => (if t827 = true then (if bt781.2.2.2.1 = 3 then (if bt793.2.2.2.2.2.2 = 192 then (if bt805.2.2.2.2.2 = 191 then (some (bt816.2.2.2.2.2 == 193)) else (none)) else (none)) else (none)) else (none)))))) else ((Fv.f k).bind fun t792 => (if t792 = true then (some (bt781.2.2.2.2.2 == 193)) else (none))))
end
def Fg.f (k : Nat) (a0_0 : ByteArray) (a0_1 : ByteArray) (l0_2 : List (S49)) (a0_3 : Int) (l0_4 : List (S51)) (a1 : Int) (a2 : Int) (a3 : Int) : Option (Bool) := (F4.f k a0_0 a0_1 l0_2 a0_3 l0_4).bind fun bt725 => ((Fa.f k bt725.1 bt725.2.1 bt725.2.2.1 bt725.2.2.2.1 bt725.2.2.2.2).bind fun t734 => (if t734 = true then ((F5.f k bt725.1 bt725.2.1 bt725.2.2.1 bt725.2.2.2.1 bt725.2.2.2.2 a1 a2 (⟨#[120]⟩ : ByteArray)).bind fun bt736 => ((F5.f k bt725.1 bt725.2.1 bt725.2.2.1 bt725.2.2.2.1 bt725.2.2.2.2 a1 a3 (⟨#[121]⟩ : ByteArray)).bind fun bt747 => (if bt736.2.2.2.2.2 = 0 then (if bt747.2.2.2.2.2 = 0 then (Fg.j0 k a1 a2 a3 (a2 != a3) bt725.1 bt725.2.1 bt725.2.2.1 bt725.2.2.2.1 bt725.2.2.2.2 bt736.1 bt736.2.1 bt736.2.2.1 bt736.2.2.2.1 bt736.2.2.2.2.1 bt747.1 bt747.2.1 bt747.2.2.1 bt747.2.2.2.1 bt747.2.2.2.2.1) else (Fg.j0 k a1 a2 a3 false bt725.1 bt725.2.1 bt725.2.2.1 bt725.2.2.2.1 bt725.2.2.2.2 bt736.1 bt736.2.1 bt736.2.2.1 bt736.2.2.2.1 bt736.2.2.2.2.1 bt747.1 bt747.2.1 bt747.2.2.1 bt747.2.2.2.1 bt747.2.2.2.2.1)) else (Fg.j0 k a1 a2 a3 false bt725.1 bt725.2.1 bt725.2.2.1 bt725.2.2.2.1 bt725.2.2.2.2 bt736.1 bt736.2.1 bt736.2.2.1 bt736.2.2.2.1 bt736.2.2.2.2.1 bt747.1 bt747.2.1 bt747.2.2.1 bt747.2.2.2.1 bt747.2.2.2.2.1)))) else ((Fv.f k).bind fun t735 => (some t735))))
set_option maxHeartbeats 8000000 in
set_option maxRecDepth 100000 in
theorem Fg.calls (k : Nat) (a0_0 : ByteArray) (a0_1 : ByteArray) (A0_2 : Option Addr) (c0_2 : Nat) (l0_2 : List (S49)) (a0_3 : Int) (A0_4 : Option Addr) (c0_4 : Nat) (l0_4 : List (S51)) (a1 : Int) (a2 : Int) (a3 : Int) (r : Bool) (w : World) (hr0_2 : Kd.C k49 w A0_2 l0_2.length l0_2) (hc0_2 : l0_2.length ≤ c0_2) (hr0_4 : Kd.C k51 w A0_4 l0_4.length l0_4) (hc0_4 : l0_4.length ≤ c0_4) (h : Fg.f k a0_0 a0_1 l0_2 a0_3 l0_4 a1 a2 a3 = some r) :
  Calls Try.prog 7 #[.agg #[.string a0_0, .string a0_1, .slice A0_2 l0_2.length c0_2, .int .i64 a0_3, .slice A0_4 l0_4.length c0_4], .int .i64 a1, .int .i64 a2, .int .i64 a3] w fun e w' => e = .returned (.bool r) ∧ Below w.heap.size w w' := by
 have hu27 := Try.underlying27
 have HR0_2 := am hr0_2
 have HC0_2 := am hc0_2
 clear hr0_2 hc0_2
 have HR0_4 := am hr0_4
 have HC0_4 := am hc0_4
 clear hr0_4 hc0_4
 have HB := am (Below.refl w.heap.size w)
 unfold Fg.f at h
 have H := h
 clear h
 replace H := Option.bind_eq_some_iff.mp H
 obtain ⟨⟨t725, t726, t727, t730, t731⟩, A50, H⟩ := H
 try dsimp only at H
 have A5 := am A50
 clear A50
 replace H := Option.bind_eq_some_iff.mp H
 obtain ⟨t734, A60, H⟩ := H
 try dsimp only at H
 have A6 := am A60
 clear A60
 by_cases c7 : t734 = true
 ·
  subst c7
  rw [if_pos rfl] at H
  try dsimp only at H
  replace H := Option.bind_eq_some_iff.mp H
  obtain ⟨⟨t736, t737, t738, t741, t742, t745⟩, A80, H⟩ := H
  try dsimp only at H
  have A8 := am A80
  clear A80
  replace H := Option.bind_eq_some_iff.mp H
  obtain ⟨⟨t747, t748, t749, t752, t753, t756⟩, A90, H⟩ := H
  try dsimp only at H
  have A9 := am A90
  clear A90
  have HC10 := am H
  clear H
  go_enter Try.func7, Try.ntmps7
  go_upto_region 6 with (first | ((with_reducible refine gD 4 ?_); refine bz 4 #[.string a0_0, .string a0_1, .slice A0_2 l0_2.length c0_2, .int .i64 a0_3, .slice A0_4 l0_4.length c0_4] 27 HB ?_; clear HB; intro gb724 hg w11 hb BK724 GW724 HB; clear hb hg; have hcz12_0 := y5 BK724) | ((with_reducible refine gC 9 ?_); refine gL 27 Try.func9 #[.agg #[.string a0_0, .string a0_1, .slice A0_2 l0_2.length c0_2, .int .i64 a0_3, .slice A0_4 l0_4.length c0_4]] ?_; (with_reducible refine (F4.calls k a0_0 a0_1 (fun k_ => k_ < w.heap.size) _ _ l0_2 a0_3 (fun k_ => k_ < w.heap.size) _ _ l0_4 t725 t726 t727 t730 t731 _ ?side1 ?side2 A5.out).mono ?_); (case side1 => exact Kd.V_mk HC0_2.out (Kd.F_below (Kd.C_F k49_heap HR0_2.out) (pB HB.out))); (case side2 => exact Kd.V_mk HC0_4.out (Kd.F_below (Kd.C_F k51_heap HR0_4.out) (pB HB.out))); rintro e w13 ⟨v728, v732, rfl, ho0, ho1, hb⟩; refine ⟨_, rfl, ?_⟩; have HO729 := am (Kd.V_lower (Kd.V_mono (ok' := fun k_ => k_ ≠ gb724) ho0 (fun k_ hk_ => Or.elim hk_ (fun hs_ => Or.elim hs_ (fun hs_ => fun e_ => Nat.not_le.2 hs_ (by rw [e_]; exact GW724.out)) (fun hs_ => fun e_ => Nat.not_le.2 hs_ (by rw [e_]; exact GW724.out))) (fun hn_ => (Kd.freshB (pk BK724.out) k_ hn_)))) (below_size (pB HB.out))); have HO733 := am (Kd.V_lower (Kd.V_mono (ok' := fun k_ => k_ ≠ gb724) ho1 (fun k_ hk_ => Or.elim hk_ (fun hs_ => Or.elim hs_ (fun hs_ => fun e_ => Nat.not_le.2 hs_ (by rw [e_]; exact GW724.out)) (fun hs_ => fun e_ => Nat.not_le.2 hs_ (by rw [e_]; exact GW724.out))) (fun hn_ => (Kd.freshB (pk BK724.out) k_ hn_)))) (below_size (pB HB.out))); replace BK724 := kB BK724 hb; replace HB := bS HB hb; (try clear hb); (try clear hb2); (try clear hk); (try clear hi); (try clear ho0); (try clear ho1); have hcz14_0 := y5 BK724; obtain ⟨Ao15, co15, eo15⟩ := Kd.V_slice HO729.out; subst eo15; obtain ⟨Ao16, co16, eo16⟩ := Kd.V_slice HO733.out; subst eo16) | ((with_reducible refine gC 15 ?_); refine gL 29 Try.func15 #[.agg #[.string t725, .string t726, .slice Ao15 t727.length co15, .int .i64 t730, .slice Ao16 t731.length co16]] ?_; (with_reducible refine (Fa.calls k t725 t726 _ _ t727 t730 _ _ t731 true _ ?side1 ?side2 ?side3 ?side4 A6.out).mono ?_); (case side1 => exact (Kd.V_reads' (pV HO729.out)).2.2); (case side2 => exact (Kd.V_reads' HO729.out).2.1); (case side3 => exact (Kd.V_reads' (pV HO733.out)).2.2); (case side4 => exact (Kd.V_reads' HO733.out).2.1); rintro e w17 ⟨rfl, hb⟩; refine ⟨_, rfl, ?_⟩; replace HO729 := vB HO729 hb; replace HO733 := vB HO733 hb; replace BK724 := am (blk_below (g := gb724) (o := .cells #[.string t725, .string t726, .slice Ao15 t727.length co15, .int .i64 t730, .slice Ao16 t731.length co16] 27 (0, 0)) (pP BK724.out) hb); replace HB := bS HB hb; (try clear hb); (try clear hb2); (try clear hk); (try clear hi); have hcz18_0 := y5 BK724) | ((with_reducible refine gC 20 ?_); refine gL 36 Try.func20 #[.agg #[.string t725, .string t726, .slice Ao15 t727.length co15, .int .i64 t730, .slice Ao16 t731.length co16], .int .i64 a1, .int .i64 a2, .string (⟨#[120]⟩ : ByteArray)] ?_; (with_reducible refine (F5.calls k t725 t726 (fun k_ => k_ ≠ gb724) _ _ t727 t730 (fun k_ => k_ ≠ gb724) _ _ t731 a1 a2 (⟨#[120]⟩ : ByteArray) t736 t737 t738 t741 t742 t745 _ ?side1 ?side2 A8.out).mono ?_); (case side1 => exact HO729.out); (case side2 => exact HO733.out); rintro e w19 ⟨v739, v743, rfl, ho0, ho1, hb⟩; refine ⟨_, rfl, ?_⟩; replace HO729 := vB HO729 hb; replace HO733 := vB HO733 hb; have HO740 := am (Kd.V_lower (Kd.V_mono (ok' := fun k_ => k_ ≠ gb724) ho0 (fun k_ hk_ => Or.elim hk_ (fun hs_ => Or.elim hs_ (fun hs_ => hs_) (fun hs_ => hs_)) (fun hn_ => (Kd.freshB (pk BK724.out) k_ hn_)))) (below_size (pB HB.out))); have HO744 := am (Kd.V_lower (Kd.V_mono (ok' := fun k_ => k_ ≠ gb724) ho1 (fun k_ hk_ => Or.elim hk_ (fun hs_ => Or.elim hs_ (fun hs_ => hs_) (fun hs_ => hs_)) (fun hn_ => (Kd.freshB (pk BK724.out) k_ hn_)))) (below_size (pB HB.out))); replace BK724 := kB BK724 hb; replace HB := bS HB hb; (try clear hb); (try clear hb2); (try clear hk); (try clear hi); (try clear ho0); (try clear ho1)) | ((with_reducible refine gD 9 ?_); refine bz 9 #[.string (⟨#[]⟩ : ByteArray), .string (⟨#[]⟩ : ByteArray), .slice none 0 0, .int .i64 0, .slice none 0 0] 27 HB ?_; clear HB; intro gb746 hg w20 hb BK746 GW746 HB; replace HO729 := vE HO729 hg hb; replace HO733 := vE HO733 hg hb; replace HO740 := vE HO740 hg hb; replace HO744 := vE HO744 hg hb; have NB724_746 := nL hg BK724; have NB746_724 := nG hg BK724; replace BK724 := kB BK724 hb; clear hb hg; have hnb21 := nn NB746_724; have hcz22_0 := y5 BK746; obtain ⟨Ao23, co23, eo23⟩ := Kd.V_slice HO740.out; subst eo23; obtain ⟨Ao24, co24, eo24⟩ := Kd.V_slice HO744.out; subst eo24) | ((with_reducible refine gate_store (t := 27) (p := 9) rfl ?_); refine store_event (t := 27) (p := 9) (v := ?vo_w25) (w1 := (((((w20.setCell ⟨gb746, 0, none⟩ (.string t736)).setCell ⟨gb746, 1, none⟩ (.string t737)).setCell ⟨gb746, 2, none⟩ (.slice Ao23 t738.length co23)).setCell ⟨gb746, 3, none⟩ (.int .i64 t741)).setCell ⟨gb746, 4, none⟩ (.slice Ao24 t742.length co24))) ?hg ?ho ?hn ?hr ?_; (case ho => rfl); (case hg => rfl); (case hn => rfl); (case hr => first | (go_simp; done) | (go_simp; rfl)); intro w25 hw; have n0_ : Aside0 (Kd.V k49 49 w25 w.heap.size (fun k_ => k_ ≠ gb724 ∧ k_ ≠ gb746) (.slice Ao15 t727.length co15) t727) := ⟨(by rw [hw]; exact (pV HO729.out))⟩; have n1_ : Aside0 (Kd.V k51 51 w25 w.heap.size (fun k_ => k_ ≠ gb724 ∧ k_ ≠ gb746) (.slice Ao16 t731.length co16) t731) := ⟨(by rw [hw]; exact (pV HO733.out))⟩; have n2_ : Aside0 (Kd.V k49 49 w25 w.heap.size (fun k_ => k_ ≠ gb724 ∧ k_ ≠ gb746) (.slice Ao23 t738.length co23) t738) := ⟨(by rw [hw]; exact (pV HO740.out))⟩; have n3_ : Aside0 (Kd.V k51 51 w25 w.heap.size (fun k_ => k_ ≠ gb724 ∧ k_ ≠ gb746) (.slice Ao24 t742.length co24) t742) := ⟨(by rw [hw]; exact (pV HO744.out))⟩; have n4_ : Aside0 (w25.heap[gb724]? = some (.cells #[.string t725, .string t726, .slice Ao15 t727.length co15, .int .i64 t730, .slice Ao16 t731.length co16] 27 (0, 0))) := ⟨(by rw [hw]; exact (pk BK724.out))⟩; have n5_ : Aside0 (w25.heap[gb746]? = some (.cells #[.string t736, .string t737, .slice Ao23 t738.length co23, .int .i64 t741, .slice Ao24 t742.length co24] 27 (0, 0))) := ⟨(by rw [hw]; exact (pP BK746.out))⟩; have n6_ : Aside0 (Below w.heap.size w w25) := ⟨(by rw [hw]; exact (pB HB.out))⟩; clear hw HO729 HO733 HO740 HO744 BK724 BK746 HB; have HO729 := n0_; have HO733 := n1_; have HO740 := n2_; have HO744 := n3_; have BK724 := n4_; have BK746 := n5_; have HB := n6_; clear n0_ n1_ n2_ n3_ n4_ n5_ n6_; have hcz26_0 := y5 BK724) | ((with_reducible refine gC 20 ?_); refine gL 43 Try.func20 #[.agg #[.string t725, .string t726, .slice Ao15 t727.length co15, .int .i64 t730, .slice Ao16 t731.length co16], .int .i64 a1, .int .i64 a3, .string (⟨#[121]⟩ : ByteArray)] ?_; (with_reducible refine (F5.calls k t725 t726 (fun k_ => (k_ ≠ gb724 ∧ k_ ≠ gb746)) _ _ t727 t730 (fun k_ => (k_ ≠ gb724 ∧ k_ ≠ gb746)) _ _ t731 a1 a3 (⟨#[121]⟩ : ByteArray) t747 t748 t749 t752 t753 t756 _ ?side1 ?side2 A9.out).mono ?_); (case side1 => exact HO729.out); (case side2 => exact HO733.out); rintro e w27 ⟨v750, v754, rfl, ho0, ho1, hb⟩; refine ⟨_, rfl, ?_⟩; replace HO729 := vB HO729 hb; replace HO733 := vB HO733 hb; replace HO740 := vB HO740 hb; replace HO744 := vB HO744 hb; have HO751 := am (Kd.V_lower (Kd.V_mono (ok' := fun k_ => k_ ≠ gb724 ∧ k_ ≠ gb746) ho0 (fun k_ hk_ => ⟨Or.elim hk_ (fun hs_ => Or.elim hs_ (fun hs_ => hs_.1) (fun hs_ => hs_.1)) (fun hn_ => (Kd.freshB (pk BK724.out) k_ hn_)), Or.elim hk_ (fun hs_ => Or.elim hs_ (fun hs_ => hs_.2) (fun hs_ => hs_.2)) (fun hn_ => (Kd.freshB (pk BK746.out) k_ hn_))⟩)) (below_size (pB HB.out))); have HO755 := am (Kd.V_lower (Kd.V_mono (ok' := fun k_ => k_ ≠ gb724 ∧ k_ ≠ gb746) ho1 (fun k_ hk_ => ⟨Or.elim hk_ (fun hs_ => Or.elim hs_ (fun hs_ => hs_.1) (fun hs_ => hs_.1)) (fun hn_ => (Kd.freshB (pk BK724.out) k_ hn_)), Or.elim hk_ (fun hs_ => Or.elim hs_ (fun hs_ => hs_.2) (fun hs_ => hs_.2)) (fun hn_ => (Kd.freshB (pk BK746.out) k_ hn_))⟩)) (below_size (pB HB.out))); replace BK724 := kB BK724 hb; replace BK746 := kB BK746 hb; replace HB := bS HB hb; (try clear hb); (try clear hb2); (try clear hk); (try clear hi); (try clear ho0); (try clear ho1)) | ((with_reducible refine gD 11 ?_); refine bz 11 #[.string (⟨#[]⟩ : ByteArray), .string (⟨#[]⟩ : ByteArray), .slice none 0 0, .int .i64 0, .slice none 0 0] 27 HB ?_; clear HB; intro gb757 hg w28 hb BK757 GW757 HB; replace HO729 := vE HO729 hg hb; replace HO733 := vE HO733 hg hb; replace HO740 := vE HO740 hg hb; replace HO744 := vE HO744 hg hb; replace HO751 := vE HO751 hg hb; replace HO755 := vE HO755 hg hb; have NB724_757 := nL hg BK724; have NB757_724 := nG hg BK724; replace BK724 := kB BK724 hb; have NB746_757 := nL hg BK746; have NB757_746 := nG hg BK746; replace BK746 := kB BK746 hb; clear hb hg; have hnb29 := nn NB757_724; have hnb30 := nn NB757_746; have hcz31_0 := y5 BK757; obtain ⟨Ao32, co32, eo32⟩ := Kd.V_slice HO751.out; subst eo32; obtain ⟨Ao33, co33, eo33⟩ := Kd.V_slice HO755.out; subst eo33))
  (try simp only [Act.put, List.setIfInBounds_toArray, List.set_cons_zero, List.set_cons_succ])
  go_cut [56] (fun v56 wc => ∃ (kq : Nat) (x56_9 : Bool), v56 = .bool x56_9 ∧ Aside0 (Fg.j0 kq a1 a2 a3 x56_9 t725 t726 t727 t730 t731 t736 t737 t738 t741 t742 t747 t748 t749 t752 t753 = some r) ∧ Aside0 (kq ≤ k) ∧ Aside0 (Kd.V k49 49 wc w.heap.size (fun k_ => k_ ≠ gb724 ∧ k_ ≠ gb746 ∧ k_ ≠ gb757) (.slice Ao15 t727.length co15) t727) ∧ Aside0 (Kd.V k51 51 wc w.heap.size (fun k_ => k_ ≠ gb724 ∧ k_ ≠ gb746 ∧ k_ ≠ gb757) (.slice Ao16 t731.length co16) t731) ∧ Aside0 (Kd.V k49 49 wc w.heap.size (fun k_ => k_ ≠ gb724 ∧ k_ ≠ gb746 ∧ k_ ≠ gb757) (.slice Ao23 t738.length co23) t738) ∧ Aside0 (Kd.V k51 51 wc w.heap.size (fun k_ => k_ ≠ gb724 ∧ k_ ≠ gb746 ∧ k_ ≠ gb757) (.slice Ao24 t742.length co24) t742) ∧ Aside0 (Kd.V k49 49 wc w.heap.size (fun k_ => k_ ≠ gb724 ∧ k_ ≠ gb746 ∧ k_ ≠ gb757) (.slice Ao32 t749.length co32) t749) ∧ Aside0 (Kd.V k51 51 wc w.heap.size (fun k_ => k_ ≠ gb724 ∧ k_ ≠ gb746 ∧ k_ ≠ gb757) (.slice Ao33 t753.length co33) t753) ∧ Aside0 (wc.heap[gb724]? = some (.cells #[.string t725, .string t726, (.slice Ao15 t727.length co15), .int .i64 t730, (.slice Ao16 t731.length co16)] 27 (0, 0))) ∧ Aside0 (wc.heap[gb746]? = some (.cells #[.string t736, .string t737, (.slice Ao23 t738.length co23), .int .i64 t741, (.slice Ao24 t742.length co24)] 27 (0, 0))) ∧ Aside0 (wc.heap[gb757]? = some (.cells #[.string t747, .string t748, (.slice Ao32 t749.length co32), .int .i64 t752, (.slice Ao33 t753.length co33)] 27 (0, 0))) ∧ Aside0 (Below w.heap.size w wc))
  case first =>
   have H := HC10.out
   clear HC10
   by_cases c34 : t745 = 0
   ·
    rw [if_pos c34] at H
    obtain ⟨c34b0, c34b1⟩ := qt c34
    clear c34
    (first | rw [c34b0] | (simp only [i64_w, i32_w]; rw [c34b0]) | skip)
    by_cases c35 : t756 = 0
    ·
     rw [if_pos c35] at H
     obtain ⟨c35b0, c35b1⟩ := qt c35
     clear c35
     have H' := am H
     clear H
     go_wp2
     go_meet
     case rel => exact ⟨_, ((a2 != a3)), el, H', ol, ⟨by exact Kd.V_mono (pV HO729.out) (fun _ hk => ⟨hk.1.1, ⟨hk.1.2, hk.2⟩⟩)⟩, ⟨by exact Kd.V_mono (pV HO733.out) (fun _ hk => ⟨hk.1.1, ⟨hk.1.2, hk.2⟩⟩)⟩, ⟨by exact Kd.V_mono (pV HO740.out) (fun _ hk => ⟨hk.1.1, ⟨hk.1.2, hk.2⟩⟩)⟩, ⟨by exact Kd.V_mono (pV HO744.out) (fun _ hk => ⟨hk.1.1, ⟨hk.1.2, hk.2⟩⟩)⟩, ⟨by exact Kd.V_mono (pV HO751.out) (fun _ hk => ⟨hk.1.1, ⟨hk.1.2, hk.2⟩⟩)⟩, ⟨by exact Kd.V_mono (pV HO755.out) (fun _ hk => ⟨hk.1.1, ⟨hk.1.2, hk.2⟩⟩)⟩, ⟨pk BK724.out⟩, ⟨pk BK746.out⟩, ⟨pP BK757.out⟩, ⟨pB HB.out⟩⟩
    rw [if_neg c35] at H
    obtain ⟨c35b0, c35b1⟩ := qf c35
    have H' := am H
    clear H
    go_wp2
    go_meet
    case rel => exact ⟨_, (false), el, H', ol, ⟨by exact Kd.V_mono (pV HO729.out) (fun _ hk => ⟨hk.1.1, ⟨hk.1.2, hk.2⟩⟩)⟩, ⟨by exact Kd.V_mono (pV HO733.out) (fun _ hk => ⟨hk.1.1, ⟨hk.1.2, hk.2⟩⟩)⟩, ⟨by exact Kd.V_mono (pV HO740.out) (fun _ hk => ⟨hk.1.1, ⟨hk.1.2, hk.2⟩⟩)⟩, ⟨by exact Kd.V_mono (pV HO744.out) (fun _ hk => ⟨hk.1.1, ⟨hk.1.2, hk.2⟩⟩)⟩, ⟨by exact Kd.V_mono (pV HO751.out) (fun _ hk => ⟨hk.1.1, ⟨hk.1.2, hk.2⟩⟩)⟩, ⟨by exact Kd.V_mono (pV HO755.out) (fun _ hk => ⟨hk.1.1, ⟨hk.1.2, hk.2⟩⟩)⟩, ⟨pk BK724.out⟩, ⟨pk BK746.out⟩, ⟨pP BK757.out⟩, ⟨pB HB.out⟩⟩
   rw [if_neg c34] at H
   obtain ⟨c34b0, c34b1⟩ := qf c34
   (first | rw [c34b0] | (simp only [i64_w, i32_w]; rw [c34b0]) | skip)
   have H' := am H
   clear H
   go_wp2
   go_meet
   case rel => exact ⟨_, (false), el, H', ol, ⟨by exact Kd.V_mono (pV HO729.out) (fun _ hk => ⟨hk.1.1, ⟨hk.1.2, hk.2⟩⟩)⟩, ⟨by exact Kd.V_mono (pV HO733.out) (fun _ hk => ⟨hk.1.1, ⟨hk.1.2, hk.2⟩⟩)⟩, ⟨by exact Kd.V_mono (pV HO740.out) (fun _ hk => ⟨hk.1.1, ⟨hk.1.2, hk.2⟩⟩)⟩, ⟨by exact Kd.V_mono (pV HO744.out) (fun _ hk => ⟨hk.1.1, ⟨hk.1.2, hk.2⟩⟩)⟩, ⟨by exact Kd.V_mono (pV HO751.out) (fun _ hk => ⟨hk.1.1, ⟨hk.1.2, hk.2⟩⟩)⟩, ⟨by exact Kd.V_mono (pV HO755.out) (fun _ hk => ⟨hk.1.1, ⟨hk.1.2, hk.2⟩⟩)⟩, ⟨pk BK724.out⟩, ⟨pk BK746.out⟩, ⟨pP BK757.out⟩, ⟨pB HB.out⟩⟩
  case rest =>
   clear HC10
   try clear c7
   try clear hcz12_0
   try clear hcz14_0
   try clear hcz18_0
   try clear hcz22_0
   try clear hcz26_0
   try clear hcz31_0
   obtain ⟨kq, x56_9, rfl, HA, HJ9, HO_725002, HO_725004, HO_747002, HO_747004, HO_758002, HO_758004, BK724, BK746, BK757, HB⟩ := hcut
   cases kq with
   | zero => exact absurd HA.out (by simp [Fg.j0])
   | succ kj9 =>
    have H := HA.out
    clear HA
    simp only [Fg.j0] at H
    have HC36 := am H
    clear H
    go_upto_if 56 with (fail)
    go_cut [] (fun wc => ∃ (kq : Nat), Aside0 (Fg.j1 kq a1 a2 t725 t726 t727 t730 t731 = some r) ∧ Aside0 (kq ≤ kj9) ∧ Aside0 (Kd.V k49 49 wc w.heap.size (fun k_ => k_ ≠ gb724 ∧ k_ ≠ gb746 ∧ k_ ≠ gb757) (.slice Ao15 t727.length co15) t727) ∧ Aside0 (Kd.V k51 51 wc w.heap.size (fun k_ => k_ ≠ gb724 ∧ k_ ≠ gb746 ∧ k_ ≠ gb757) (.slice Ao16 t731.length co16) t731) ∧ Aside0 (Kd.V k49 49 wc w.heap.size (fun k_ => k_ ≠ gb724 ∧ k_ ≠ gb746 ∧ k_ ≠ gb757) (.slice Ao23 t738.length co23) t738) ∧ Aside0 (Kd.V k51 51 wc w.heap.size (fun k_ => k_ ≠ gb724 ∧ k_ ≠ gb746 ∧ k_ ≠ gb757) (.slice Ao24 t742.length co24) t742) ∧ Aside0 (Kd.V k49 49 wc w.heap.size (fun k_ => k_ ≠ gb724 ∧ k_ ≠ gb746 ∧ k_ ≠ gb757) (.slice Ao32 t749.length co32) t749) ∧ Aside0 (Kd.V k51 51 wc w.heap.size (fun k_ => k_ ≠ gb724 ∧ k_ ≠ gb746 ∧ k_ ≠ gb757) (.slice Ao33 t753.length co33) t753) ∧ Aside0 (wc.heap[gb724]? = some (.cells #[.string t725, .string t726, (.slice Ao15 t727.length co15), .int .i64 t730, (.slice Ao16 t731.length co16)] 27 (0, 0))) ∧ Aside0 (wc.heap[gb746]? = some (.cells #[.string t736, .string t737, (.slice Ao23 t738.length co23), .int .i64 t741, (.slice Ao24 t742.length co24)] 27 (0, 0))) ∧ Aside0 (wc.heap[gb757]? = some (.cells #[.string t747, .string t748, (.slice Ao32 t749.length co32), .int .i64 t752, (.slice Ao33 t753.length co33)] 27 (0, 0))) ∧ Aside0 (Below w.heap.size w wc))
    case first =>
     have H := HC36.out
     clear HC36
     by_cases c37 : x56_9 = true
     ·
      subst c37
      rw [if_pos rfl] at H
      try dsimp only at H
      replace H := Option.bind_eq_some_iff.mp H
      obtain ⟨⟨t758, t759, t760, t763, t764, t767⟩, A380, H⟩ := H
      try dsimp only at H
      have A38 := am A380
      clear A380
      replace H := Option.bind_eq_some_iff.mp H
      obtain ⟨⟨t769, t770, t771, t774, t775, t778⟩, A390, H⟩ := H
      try dsimp only at H
      have A39 := am A390
      clear A390
      by_cases c40 : t767 = 0
      ·
       rw [if_pos c40] at H
       obtain ⟨c40b0, c40b1⟩ := qt c40
       clear c40
       (first | rw [c40b0] | (simp only [i64_w, i32_w]; rw [c40b0]) | skip)
       by_cases c41 : t778 = 0
       ·
        rw [if_pos c41] at H
        obtain ⟨c41b0, c41b1⟩ := qt c41
        clear c41
        replace H := Option.bind_eq_some_iff.mp H
        obtain ⟨t780, A420, H⟩ := H
        try dsimp only at H
        have A42 := am A420
        clear A420
        by_cases c43 : t780 = true
        ·
         subst c43
         rw [if_pos rfl] at H
         try dsimp only at H
         have H' := am H
         clear H
         have hnb44 := nn NB746_724
         have hnb45 := nn NB746_757
         have hcz46_0 := y5 BK746
         go_wp2_with (first | ((with_reducible refine gC 20 ?_); refine gL 61 Try.func20 #[.agg #[.string t736, .string t737, .slice Ao23 t738.length co23, .int .i64 t741, .slice Ao24 t742.length co24], .int .i64 a1, .int .i64 a3, .string (⟨#[121]⟩ : ByteArray)] ?_; (with_reducible refine (F5.calls kj9 t736 t737 (fun k_ => (k_ ≠ gb724 ∧ (k_ ≠ gb746 ∧ k_ ≠ gb757))) _ _ t738 t741 (fun k_ => (k_ ≠ gb724 ∧ (k_ ≠ gb746 ∧ k_ ≠ gb757))) _ _ t742 a1 a3 (⟨#[121]⟩ : ByteArray) t758 t759 t760 t763 t764 t767 _ ?side1 ?side2 A38.out).mono ?_); (case side1 => exact HO_747002.out); (case side2 => exact HO_747004.out); rintro e w47 ⟨v761, v765, rfl, ho0, ho1, hb⟩; refine ⟨_, rfl, ?_⟩; replace HO_725002 := vB HO_725002 hb; replace HO_725004 := vB HO_725004 hb; replace HO_747002 := vB HO_747002 hb; replace HO_747004 := vB HO_747004 hb; replace HO_758002 := vB HO_758002 hb; replace HO_758004 := vB HO_758004 hb; have HO762 := am (Kd.V_lower (Kd.V_mono (ok' := fun k_ => k_ ≠ gb724 ∧ k_ ≠ gb746 ∧ k_ ≠ gb757) ho0 (fun k_ hk_ => ⟨Or.elim hk_ (fun hs_ => Or.elim hs_ (fun hs_ => hs_.1) (fun hs_ => hs_.1)) (fun hn_ => (Kd.freshB (pk BK724.out) k_ hn_)), Or.elim hk_ (fun hs_ => Or.elim hs_ (fun hs_ => hs_.2.1) (fun hs_ => hs_.2.1)) (fun hn_ => (Kd.freshB (pk BK746.out) k_ hn_)), Or.elim hk_ (fun hs_ => Or.elim hs_ (fun hs_ => hs_.2.2) (fun hs_ => hs_.2.2)) (fun hn_ => (Kd.freshB (pk BK757.out) k_ hn_))⟩)) (below_size (pB HB.out))); have HO766 := am (Kd.V_lower (Kd.V_mono (ok' := fun k_ => k_ ≠ gb724 ∧ k_ ≠ gb746 ∧ k_ ≠ gb757) ho1 (fun k_ hk_ => ⟨Or.elim hk_ (fun hs_ => Or.elim hs_ (fun hs_ => hs_.1) (fun hs_ => hs_.1)) (fun hn_ => (Kd.freshB (pk BK724.out) k_ hn_)), Or.elim hk_ (fun hs_ => Or.elim hs_ (fun hs_ => hs_.2.1) (fun hs_ => hs_.2.1)) (fun hn_ => (Kd.freshB (pk BK746.out) k_ hn_)), Or.elim hk_ (fun hs_ => Or.elim hs_ (fun hs_ => hs_.2.2) (fun hs_ => hs_.2.2)) (fun hn_ => (Kd.freshB (pk BK757.out) k_ hn_))⟩)) (below_size (pB HB.out))); replace BK724 := kB BK724 hb; replace BK746 := kB BK746 hb; replace BK757 := kB BK757 hb; replace HB := bS HB hb; (try clear hb); (try clear hb2); (try clear hk); (try clear hi); (try clear ho0); (try clear ho1)) | ((with_reducible refine gD 13 ?_); refine bz 13 #[.string (⟨#[]⟩ : ByteArray), .string (⟨#[]⟩ : ByteArray), .slice none 0 0, .int .i64 0, .slice none 0 0] 27 HB ?_; clear HB; intro gb768 hg w48 hb BK768 GW768 HB; replace HO_725002 := vE HO_725002 hg hb; replace HO_725004 := vE HO_725004 hg hb; replace HO_747002 := vE HO_747002 hg hb; replace HO_747004 := vE HO_747004 hg hb; replace HO_758002 := vE HO_758002 hg hb; replace HO_758004 := vE HO_758004 hg hb; replace HO762 := vE HO762 hg hb; replace HO766 := vE HO766 hg hb; have NB724_768 := nL hg BK724; have NB768_724 := nG hg BK724; replace BK724 := kB BK724 hb; have NB746_768 := nL hg BK746; have NB768_746 := nG hg BK746; replace BK746 := kB BK746 hb; have NB757_768 := nL hg BK757; have NB768_757 := nG hg BK757; replace BK757 := kB BK757 hb; clear hb hg; have hnb49 := nn NB768_724; have hnb50 := nn NB768_746; have hnb51 := nn NB768_757; have hcz52_0 := y5 BK768; obtain ⟨Ao53, co53, eo53⟩ := Kd.V_slice HO762.out; subst eo53; obtain ⟨Ao54, co54, eo54⟩ := Kd.V_slice HO766.out; subst eo54) | ((with_reducible refine gate_store (t := 27) (p := 13) rfl ?_); refine store_event (t := 27) (p := 13) (v := ?vo_w55) (w1 := (((((w48.setCell ⟨gb768, 0, none⟩ (.string t758)).setCell ⟨gb768, 1, none⟩ (.string t759)).setCell ⟨gb768, 2, none⟩ (.slice Ao53 t760.length co53)).setCell ⟨gb768, 3, none⟩ (.int .i64 t763)).setCell ⟨gb768, 4, none⟩ (.slice Ao54 t764.length co54))) ?hg ?ho ?hn ?hr ?_; (case ho => rfl); (case hg => rfl); (case hn => rfl); (case hr => first | (go_simp; done) | (go_simp; rfl)); intro w55 hw; have n0_ : Aside0 (Kd.V k49 49 w55 w.heap.size (fun k_ => k_ ≠ gb724 ∧ k_ ≠ gb746 ∧ k_ ≠ gb757 ∧ k_ ≠ gb768) (.slice Ao15 t727.length co15) t727) := ⟨(by rw [hw]; exact (by exact Kd.V_mono (pV HO_725002.out) (fun _ hk => ⟨hk.1.1, ⟨hk.1.2.1, ⟨hk.1.2.2, hk.2⟩⟩⟩)))⟩; have n1_ : Aside0 (Kd.V k51 51 w55 w.heap.size (fun k_ => k_ ≠ gb724 ∧ k_ ≠ gb746 ∧ k_ ≠ gb757 ∧ k_ ≠ gb768) (.slice Ao16 t731.length co16) t731) := ⟨(by rw [hw]; exact (by exact Kd.V_mono (pV HO_725004.out) (fun _ hk => ⟨hk.1.1, ⟨hk.1.2.1, ⟨hk.1.2.2, hk.2⟩⟩⟩)))⟩; have n2_ : Aside0 (Kd.V k49 49 w55 w.heap.size (fun k_ => k_ ≠ gb724 ∧ k_ ≠ gb746 ∧ k_ ≠ gb757 ∧ k_ ≠ gb768) (.slice Ao23 t738.length co23) t738) := ⟨(by rw [hw]; exact (by exact Kd.V_mono (pV HO_747002.out) (fun _ hk => ⟨hk.1.1, ⟨hk.1.2.1, ⟨hk.1.2.2, hk.2⟩⟩⟩)))⟩; have n3_ : Aside0 (Kd.V k51 51 w55 w.heap.size (fun k_ => k_ ≠ gb724 ∧ k_ ≠ gb746 ∧ k_ ≠ gb757 ∧ k_ ≠ gb768) (.slice Ao24 t742.length co24) t742) := ⟨(by rw [hw]; exact (by exact Kd.V_mono (pV HO_747004.out) (fun _ hk => ⟨hk.1.1, ⟨hk.1.2.1, ⟨hk.1.2.2, hk.2⟩⟩⟩)))⟩; have n4_ : Aside0 (Kd.V k49 49 w55 w.heap.size (fun k_ => k_ ≠ gb724 ∧ k_ ≠ gb746 ∧ k_ ≠ gb757 ∧ k_ ≠ gb768) (.slice Ao32 t749.length co32) t749) := ⟨(by rw [hw]; exact (by exact Kd.V_mono (pV HO_758002.out) (fun _ hk => ⟨hk.1.1, ⟨hk.1.2.1, ⟨hk.1.2.2, hk.2⟩⟩⟩)))⟩; have n5_ : Aside0 (Kd.V k51 51 w55 w.heap.size (fun k_ => k_ ≠ gb724 ∧ k_ ≠ gb746 ∧ k_ ≠ gb757 ∧ k_ ≠ gb768) (.slice Ao33 t753.length co33) t753) := ⟨(by rw [hw]; exact (by exact Kd.V_mono (pV HO_758004.out) (fun _ hk => ⟨hk.1.1, ⟨hk.1.2.1, ⟨hk.1.2.2, hk.2⟩⟩⟩)))⟩; have n6_ : Aside0 (Kd.V k49 49 w55 w.heap.size (fun k_ => k_ ≠ gb724 ∧ k_ ≠ gb746 ∧ k_ ≠ gb757 ∧ k_ ≠ gb768) (.slice Ao53 t760.length co53) t760) := ⟨(by rw [hw]; exact (by exact Kd.V_mono (pV HO762.out) (fun _ hk => ⟨hk.1.1, ⟨hk.1.2.1, ⟨hk.1.2.2, hk.2⟩⟩⟩)))⟩; have n7_ : Aside0 (Kd.V k51 51 w55 w.heap.size (fun k_ => k_ ≠ gb724 ∧ k_ ≠ gb746 ∧ k_ ≠ gb757 ∧ k_ ≠ gb768) (.slice Ao54 t764.length co54) t764) := ⟨(by rw [hw]; exact (by exact Kd.V_mono (pV HO766.out) (fun _ hk => ⟨hk.1.1, ⟨hk.1.2.1, ⟨hk.1.2.2, hk.2⟩⟩⟩)))⟩; have n8_ : Aside0 (w55.heap[gb724]? = some (.cells #[.string t725, .string t726, .slice Ao15 t727.length co15, .int .i64 t730, .slice Ao16 t731.length co16] 27 (0, 0))) := ⟨(by rw [hw]; exact (pk BK724.out))⟩; have n9_ : Aside0 (w55.heap[gb746]? = some (.cells #[.string t736, .string t737, .slice Ao23 t738.length co23, .int .i64 t741, .slice Ao24 t742.length co24] 27 (0, 0))) := ⟨(by rw [hw]; exact (pk BK746.out))⟩; have n10_ : Aside0 (w55.heap[gb757]? = some (.cells #[.string t747, .string t748, .slice Ao32 t749.length co32, .int .i64 t752, .slice Ao33 t753.length co33] 27 (0, 0))) := ⟨(by rw [hw]; exact (pk BK757.out))⟩; have n11_ : Aside0 (w55.heap[gb768]? = some (.cells #[.string t758, .string t759, .slice Ao53 t760.length co53, .int .i64 t763, .slice Ao54 t764.length co54] 27 (0, 0))) := ⟨(by rw [hw]; exact (pP BK768.out))⟩; have n12_ : Aside0 (Below w.heap.size w w55) := ⟨(by rw [hw]; exact (pB HB.out))⟩; clear hw HO_725002 HO_725004 HO_747002 HO_747004 HO_758002 HO_758004 HO762 HO766 BK724 BK746 BK757 BK768 HB; have HO_725002 := n0_; have HO_725004 := n1_; have HO_747002 := n2_; have HO_747004 := n3_; have HO_758002 := n4_; have HO_758004 := n5_; have HO762 := n6_; have HO766 := n7_; have BK724 := n8_; have BK746 := n9_; have BK757 := n10_; have BK768 := n11_; have HB := n12_; clear n0_ n1_ n2_ n3_ n4_ n5_ n6_ n7_ n8_ n9_ n10_ n11_ n12_; have hnb56 := nn NB757_724; have hcz57_0 := y5 BK757) | ((with_reducible refine gC 20 ?_); refine gL 68 Try.func20 #[.agg #[.string t747, .string t748, .slice Ao32 t749.length co32, .int .i64 t752, .slice Ao33 t753.length co33], .int .i64 a1, .int .i64 a2, .string (⟨#[120]⟩ : ByteArray)] ?_; (with_reducible refine (F5.calls kj9 t747 t748 (fun k_ => (k_ ≠ gb724 ∧ (k_ ≠ gb746 ∧ (k_ ≠ gb757 ∧ k_ ≠ gb768)))) _ _ t749 t752 (fun k_ => (k_ ≠ gb724 ∧ (k_ ≠ gb746 ∧ (k_ ≠ gb757 ∧ k_ ≠ gb768)))) _ _ t753 a1 a2 (⟨#[120]⟩ : ByteArray) t769 t770 t771 t774 t775 t778 _ ?side1 ?side2 A39.out).mono ?_); (case side1 => exact HO_758002.out); (case side2 => exact HO_758004.out); rintro e w58 ⟨v772, v776, rfl, ho0, ho1, hb⟩; refine ⟨_, rfl, ?_⟩; replace HO_725002 := vB HO_725002 hb; replace HO_725004 := vB HO_725004 hb; replace HO_747002 := vB HO_747002 hb; replace HO_747004 := vB HO_747004 hb; replace HO_758002 := vB HO_758002 hb; replace HO_758004 := vB HO_758004 hb; replace HO762 := vB HO762 hb; replace HO766 := vB HO766 hb; have HO773 := am (Kd.V_lower (Kd.V_mono (ok' := fun k_ => k_ ≠ gb724 ∧ k_ ≠ gb746 ∧ k_ ≠ gb757 ∧ k_ ≠ gb768) ho0 (fun k_ hk_ => ⟨Or.elim hk_ (fun hs_ => Or.elim hs_ (fun hs_ => hs_.1) (fun hs_ => hs_.1)) (fun hn_ => (Kd.freshB (pk BK724.out) k_ hn_)), Or.elim hk_ (fun hs_ => Or.elim hs_ (fun hs_ => hs_.2.1) (fun hs_ => hs_.2.1)) (fun hn_ => (Kd.freshB (pk BK746.out) k_ hn_)), Or.elim hk_ (fun hs_ => Or.elim hs_ (fun hs_ => hs_.2.2.1) (fun hs_ => hs_.2.2.1)) (fun hn_ => (Kd.freshB (pk BK757.out) k_ hn_)), Or.elim hk_ (fun hs_ => Or.elim hs_ (fun hs_ => hs_.2.2.2) (fun hs_ => hs_.2.2.2)) (fun hn_ => (Kd.freshB (pk BK768.out) k_ hn_))⟩)) (below_size (pB HB.out))); have HO777 := am (Kd.V_lower (Kd.V_mono (ok' := fun k_ => k_ ≠ gb724 ∧ k_ ≠ gb746 ∧ k_ ≠ gb757 ∧ k_ ≠ gb768) ho1 (fun k_ hk_ => ⟨Or.elim hk_ (fun hs_ => Or.elim hs_ (fun hs_ => hs_.1) (fun hs_ => hs_.1)) (fun hn_ => (Kd.freshB (pk BK724.out) k_ hn_)), Or.elim hk_ (fun hs_ => Or.elim hs_ (fun hs_ => hs_.2.1) (fun hs_ => hs_.2.1)) (fun hn_ => (Kd.freshB (pk BK746.out) k_ hn_)), Or.elim hk_ (fun hs_ => Or.elim hs_ (fun hs_ => hs_.2.2.1) (fun hs_ => hs_.2.2.1)) (fun hn_ => (Kd.freshB (pk BK757.out) k_ hn_)), Or.elim hk_ (fun hs_ => Or.elim hs_ (fun hs_ => hs_.2.2.2) (fun hs_ => hs_.2.2.2)) (fun hn_ => (Kd.freshB (pk BK768.out) k_ hn_))⟩)) (below_size (pB HB.out))); replace BK724 := kB BK724 hb; replace BK746 := kB BK746 hb; replace BK757 := kB BK757 hb; replace BK768 := kB BK768 hb; replace HB := bS HB hb; (try clear hb); (try clear hb2); (try clear hk); (try clear hi); (try clear ho0); (try clear ho1)) | ((with_reducible refine gD 15 ?_); refine bz 15 #[.string (⟨#[]⟩ : ByteArray), .string (⟨#[]⟩ : ByteArray), .slice none 0 0, .int .i64 0, .slice none 0 0] 27 HB ?_; clear HB; intro gb779 hg w59 hb BK779 GW779 HB; replace HO_725002 := vE HO_725002 hg hb; replace HO_725004 := vE HO_725004 hg hb; replace HO_747002 := vE HO_747002 hg hb; replace HO_747004 := vE HO_747004 hg hb; replace HO_758002 := vE HO_758002 hg hb; replace HO_758004 := vE HO_758004 hg hb; replace HO762 := vE HO762 hg hb; replace HO766 := vE HO766 hg hb; replace HO773 := vE HO773 hg hb; replace HO777 := vE HO777 hg hb; have NB724_779 := nL hg BK724; have NB779_724 := nG hg BK724; replace BK724 := kB BK724 hb; have NB746_779 := nL hg BK746; have NB779_746 := nG hg BK746; replace BK746 := kB BK746 hb; have NB757_779 := nL hg BK757; have NB779_757 := nG hg BK757; replace BK757 := kB BK757 hb; have NB768_779 := nL hg BK768; have NB779_768 := nG hg BK768; replace BK768 := kB BK768 hb; clear hb hg; have hnb60 := nn NB779_724; have hnb61 := nn NB779_746; have hnb62 := nn NB779_757; have hnb63 := nn NB779_768; have hcz64_0 := y5 BK779; obtain ⟨Ao65, co65, eo65⟩ := Kd.V_slice HO773.out; subst eo65; obtain ⟨Ao66, co66, eo66⟩ := Kd.V_slice HO777.out; subst eo66; have hcz67_0 := y5 BK768) | (go_at_call 12; (with_reducible refine (Fz.calls kj9 t758 t759 _ _ t760 t763 _ _ t764 t769 t770 _ _ t771 t774 _ _ t775 true _ ?side1 ?side2 ?side3 ?side4 ?side5 ?side6 ?side7 ?side8 A42.out).mono ?_); (case side1 => exact (Kd.V_reads' (pV HO762.out)).2.2); (case side2 => exact (Kd.V_reads' HO762.out).2.1); (case side3 => exact (Kd.V_reads' (pV HO766.out)).2.2); (case side4 => exact (Kd.V_reads' HO766.out).2.1); (case side5 => exact (Kd.V_reads' (pV HO773.out)).2.2); (case side6 => exact (Kd.V_reads' HO773.out).2.1); (case side7 => exact (Kd.V_reads' (pV HO777.out)).2.2); (case side8 => exact (Kd.V_reads' HO777.out).2.1); rintro e w68 ⟨rfl, hb⟩; replace HO_725002 := vB HO_725002 hb; replace HO_725004 := vB HO_725004 hb; replace HO_747002 := vB HO_747002 hb; replace HO_747004 := vB HO_747004 hb; replace HO_758002 := vB HO_758002 hb; replace HO_758004 := vB HO_758004 hb; replace HO762 := vB HO762 hb; replace HO766 := vB HO766 hb; replace HO773 := vB HO773 hb; replace HO777 := vB HO777 hb; replace BK724 := kB BK724 hb; replace BK746 := kB BK746 hb; replace BK757 := kB BK757 hb; replace BK768 := kB BK768 hb; replace BK779 := am (blk_below (g := gb779) (o := .cells #[.string t769, .string t770, .slice Ao65 t771.length co65, .int .i64 t774, .slice Ao66 t775.length co66] 27 (0, 0)) (pP BK779.out) hb); replace HB := bS HB hb; (try clear hb); (try clear hb2); (try clear hk); (try clear hi)))
         go_meet
         case rel => exact ⟨_, H', ⟨by have := HJ9.out; first | omega | exact Nat.le_refl _⟩, ⟨by exact Kd.V_mono (pV HO_725002.out) (fun _ hk => ⟨hk.1.1, ⟨hk.1.2.1, hk.1.2.2.1⟩⟩)⟩, ⟨by exact Kd.V_mono (pV HO_725004.out) (fun _ hk => ⟨hk.1.1, ⟨hk.1.2.1, hk.1.2.2.1⟩⟩)⟩, ⟨by exact Kd.V_mono (pV HO_747002.out) (fun _ hk => ⟨hk.1.1, ⟨hk.1.2.1, hk.1.2.2.1⟩⟩)⟩, ⟨by exact Kd.V_mono (pV HO_747004.out) (fun _ hk => ⟨hk.1.1, ⟨hk.1.2.1, hk.1.2.2.1⟩⟩)⟩, ⟨by exact Kd.V_mono (pV HO_758002.out) (fun _ hk => ⟨hk.1.1, ⟨hk.1.2.1, hk.1.2.2.1⟩⟩)⟩, ⟨by exact Kd.V_mono (pV HO_758004.out) (fun _ hk => ⟨hk.1.1, ⟨hk.1.2.1, hk.1.2.2.1⟩⟩)⟩, ⟨pk BK724.out⟩, ⟨pk BK746.out⟩, ⟨pk BK757.out⟩, ⟨pB HB.out⟩⟩
        replace c43 := Bool.eq_false_iff.mpr c43
        subst c43
        rw [if_neg (show ¬ (false = true) by decide)] at H
        try dsimp only at H
        exact absurd H (by simp)
       rw [if_neg c41] at H
       exact absurd H (by simp)
      rw [if_neg c40] at H
      exact absurd H (by simp)
     replace c37 := Bool.eq_false_iff.mpr c37
     subst c37
     rw [if_neg (show ¬ (false = true) by decide)] at H
     try dsimp only at H
     have H' := am H
     clear H
     go_wp2
     go_meet
     case rel => exact ⟨_, H', ⟨by have := HJ9.out; first | omega | exact Nat.le_refl _⟩, ⟨(pV HO_725002.out)⟩, ⟨(pV HO_725004.out)⟩, ⟨(pV HO_747002.out)⟩, ⟨(pV HO_747004.out)⟩, ⟨(pV HO_758002.out)⟩, ⟨(pV HO_758004.out)⟩, ⟨pk BK724.out⟩, ⟨pk BK746.out⟩, ⟨pk BK757.out⟩, ⟨pB HB.out⟩⟩
    case rest =>
     clear HC36
     try clear c7
     try clear hcz12_0
     try clear hcz14_0
     try clear hcz18_0
     try clear hcz22_0
     try clear hcz26_0
     try clear hcz31_0
     obtain ⟨kq, HA, HJ35, HO_725002, HO_725004, HO_747002, HO_747004, HO_758002, HO_758004, BK724, BK746, BK757, HB⟩ := hcut
     cases kq with
     | zero => exact absurd HA.out (by simp [Fg.j1])
     | succ kj35 =>
      have H := HA.out
      clear HA
      simp only [Fg.j1] at H
      replace H := Option.bind_eq_some_iff.mp H
      obtain ⟨⟨t781, t782, t783, t786, t787, t790⟩, A690, H⟩ := H
      try dsimp only at H
      have A69 := am A690
      clear A690
      by_cases c70 : t790 = 0
      ·
       rw [if_pos c70] at H
       obtain ⟨c70b0, c70b1⟩ := qt c70
       clear c70
       replace H := Option.bind_eq_some_iff.mp H
       obtain ⟨⟨t793, t794, t795, t798, t799, t802, t803⟩, A710, H⟩ := H
       try dsimp only at H
       have A71 := am A710
       clear A710
       replace H := Option.bind_eq_some_iff.mp H
       obtain ⟨⟨t805, t806, t807, t810, t811, t814⟩, A720, H⟩ := H
       try dsimp only at H
       have A72 := am A720
       clear A720
       replace H := Option.bind_eq_some_iff.mp H
       obtain ⟨⟨t816, t817, t818, t821, t822, t825⟩, A730, H⟩ := H
       try dsimp only at H
       have A73 := am A730
       clear A730
       replace H := Option.bind_eq_some_iff.mp H
       obtain ⟨t827, A740, H⟩ := H
       try dsimp only at H
       have A74 := am A740
       clear A740
       by_cases c75 : t827 = true
       ·
        subst c75
        rw [if_pos rfl] at H
        try dsimp only at H
        by_cases c76 : t786 = 3
        ·
         rw [if_pos c76] at H
         obtain ⟨c76b0, c76b1⟩ := qt c76
         clear c76
         by_cases c77 : t803 = 192
         ·
          rw [if_pos c77] at H
          obtain ⟨c77b0, c77b1⟩ := qt c77
          clear c77
          by_cases c78 : t814 = 191
          ·
           rw [if_pos c78] at H
           obtain ⟨c78b0, c78b1⟩ := qt c78
           clear c78
           obtain rfl := Option.some.inj H
           have hnb79 := nn NB724_746
           have hnb80 := nn NB724_757
           have hcz81_0 := y5 BK724
           go_wp2_with (first | ((with_reducible refine gC 24 ?_); refine gL 86 Try.func24 #[.agg #[.string t725, .string t726, .slice Ao15 t727.length co15, .int .i64 t730, .slice Ao16 t731.length co16], .int .i64 a1] ?_; (with_reducible refine (F9.calls kj35 t725 t726 (fun k_ => (k_ ≠ gb724 ∧ (k_ ≠ gb746 ∧ k_ ≠ gb757))) _ _ t727 t730 (fun k_ => (k_ ≠ gb724 ∧ (k_ ≠ gb746 ∧ k_ ≠ gb757))) _ _ t731 a1 t781 t782 t783 t786 t787 t790 _ ?side1 ?side2 A69.out).mono ?_); (case side1 => exact HO_725002.out); (case side2 => exact HO_725004.out); rintro e w82 ⟨v784, v788, rfl, ho0, ho1, hb⟩; refine ⟨_, rfl, ?_⟩; replace HO_725002 := vB HO_725002 hb; replace HO_725004 := vB HO_725004 hb; replace HO_747002 := vB HO_747002 hb; replace HO_747004 := vB HO_747004 hb; replace HO_758002 := vB HO_758002 hb; replace HO_758004 := vB HO_758004 hb; have HO785 := am (Kd.V_lower (Kd.V_mono (ok' := fun k_ => k_ ≠ gb724 ∧ k_ ≠ gb746 ∧ k_ ≠ gb757) ho0 (fun k_ hk_ => ⟨Or.elim hk_ (fun hs_ => Or.elim hs_ (fun hs_ => hs_.1) (fun hs_ => hs_.1)) (fun hn_ => (Kd.freshB (pk BK724.out) k_ hn_)), Or.elim hk_ (fun hs_ => Or.elim hs_ (fun hs_ => hs_.2.1) (fun hs_ => hs_.2.1)) (fun hn_ => (Kd.freshB (pk BK746.out) k_ hn_)), Or.elim hk_ (fun hs_ => Or.elim hs_ (fun hs_ => hs_.2.2) (fun hs_ => hs_.2.2)) (fun hn_ => (Kd.freshB (pk BK757.out) k_ hn_))⟩)) (below_size (pB HB.out))); have HO789 := am (Kd.V_lower (Kd.V_mono (ok' := fun k_ => k_ ≠ gb724 ∧ k_ ≠ gb746 ∧ k_ ≠ gb757) ho1 (fun k_ hk_ => ⟨Or.elim hk_ (fun hs_ => Or.elim hs_ (fun hs_ => hs_.1) (fun hs_ => hs_.1)) (fun hn_ => (Kd.freshB (pk BK724.out) k_ hn_)), Or.elim hk_ (fun hs_ => Or.elim hs_ (fun hs_ => hs_.2.1) (fun hs_ => hs_.2.1)) (fun hn_ => (Kd.freshB (pk BK746.out) k_ hn_)), Or.elim hk_ (fun hs_ => Or.elim hs_ (fun hs_ => hs_.2.2) (fun hs_ => hs_.2.2)) (fun hn_ => (Kd.freshB (pk BK757.out) k_ hn_))⟩)) (below_size (pB HB.out))); replace BK724 := kB BK724 hb; replace BK746 := kB BK746 hb; replace BK757 := kB BK757 hb; replace HB := bS HB hb; (try clear hb); (try clear hb2); (try clear hk); (try clear hi); (try clear ho0); (try clear ho1)) | ((with_reducible refine gD 17 ?_); refine bz 17 #[.string (⟨#[]⟩ : ByteArray), .string (⟨#[]⟩ : ByteArray), .slice none 0 0, .int .i64 0, .slice none 0 0] 27 HB ?_; clear HB; intro gb791 hg w83 hb BK791 GW791 HB; replace HO_725002 := vE HO_725002 hg hb; replace HO_725004 := vE HO_725004 hg hb; replace HO_747002 := vE HO_747002 hg hb; replace HO_747004 := vE HO_747004 hg hb; replace HO_758002 := vE HO_758002 hg hb; replace HO_758004 := vE HO_758004 hg hb; replace HO785 := vE HO785 hg hb; replace HO789 := vE HO789 hg hb; have NB724_791 := nL hg BK724; have NB791_724 := nG hg BK724; replace BK724 := kB BK724 hb; have NB746_791 := nL hg BK746; have NB791_746 := nG hg BK746; replace BK746 := kB BK746 hb; have NB757_791 := nL hg BK757; have NB791_757 := nG hg BK757; replace BK757 := kB BK757 hb; clear hb hg; have hnb84 := nn NB791_724; have hnb85 := nn NB791_746; have hnb86 := nn NB791_757; have hcz87_0 := y5 BK791; obtain ⟨Ao88, co88, eo88⟩ := Kd.V_slice HO785.out; subst eo88; obtain ⟨Ao89, co89, eo89⟩ := Kd.V_slice HO789.out; subst eo89) | ((with_reducible refine gate_store (t := 27) (p := 17) rfl ?_); refine store_event (t := 27) (p := 17) (v := ?vo_w90) (w1 := (((((w83.setCell ⟨gb791, 0, none⟩ (.string t781)).setCell ⟨gb791, 1, none⟩ (.string t782)).setCell ⟨gb791, 2, none⟩ (.slice Ao88 t783.length co88)).setCell ⟨gb791, 3, none⟩ (.int .i64 t786)).setCell ⟨gb791, 4, none⟩ (.slice Ao89 t787.length co89))) ?hg ?ho ?hn ?hr ?_; (case ho => rfl); (case hg => rfl); (case hn => rfl); (case hr => first | (go_simp; done) | (go_simp; rfl)); intro w90 hw; have n0_ : Aside0 (Kd.V k49 49 w90 w.heap.size (fun k_ => k_ ≠ gb724 ∧ k_ ≠ gb746 ∧ k_ ≠ gb757 ∧ k_ ≠ gb791) (.slice Ao15 t727.length co15) t727) := ⟨(by rw [hw]; exact (by exact Kd.V_mono (pV HO_725002.out) (fun _ hk => ⟨hk.1.1, ⟨hk.1.2.1, ⟨hk.1.2.2, hk.2⟩⟩⟩)))⟩; have n1_ : Aside0 (Kd.V k51 51 w90 w.heap.size (fun k_ => k_ ≠ gb724 ∧ k_ ≠ gb746 ∧ k_ ≠ gb757 ∧ k_ ≠ gb791) (.slice Ao16 t731.length co16) t731) := ⟨(by rw [hw]; exact (by exact Kd.V_mono (pV HO_725004.out) (fun _ hk => ⟨hk.1.1, ⟨hk.1.2.1, ⟨hk.1.2.2, hk.2⟩⟩⟩)))⟩; have n2_ : Aside0 (Kd.V k49 49 w90 w.heap.size (fun k_ => k_ ≠ gb724 ∧ k_ ≠ gb746 ∧ k_ ≠ gb757 ∧ k_ ≠ gb791) (.slice Ao23 t738.length co23) t738) := ⟨(by rw [hw]; exact (by exact Kd.V_mono (pV HO_747002.out) (fun _ hk => ⟨hk.1.1, ⟨hk.1.2.1, ⟨hk.1.2.2, hk.2⟩⟩⟩)))⟩; have n3_ : Aside0 (Kd.V k51 51 w90 w.heap.size (fun k_ => k_ ≠ gb724 ∧ k_ ≠ gb746 ∧ k_ ≠ gb757 ∧ k_ ≠ gb791) (.slice Ao24 t742.length co24) t742) := ⟨(by rw [hw]; exact (by exact Kd.V_mono (pV HO_747004.out) (fun _ hk => ⟨hk.1.1, ⟨hk.1.2.1, ⟨hk.1.2.2, hk.2⟩⟩⟩)))⟩; have n4_ : Aside0 (Kd.V k49 49 w90 w.heap.size (fun k_ => k_ ≠ gb724 ∧ k_ ≠ gb746 ∧ k_ ≠ gb757 ∧ k_ ≠ gb791) (.slice Ao32 t749.length co32) t749) := ⟨(by rw [hw]; exact (by exact Kd.V_mono (pV HO_758002.out) (fun _ hk => ⟨hk.1.1, ⟨hk.1.2.1, ⟨hk.1.2.2, hk.2⟩⟩⟩)))⟩; have n5_ : Aside0 (Kd.V k51 51 w90 w.heap.size (fun k_ => k_ ≠ gb724 ∧ k_ ≠ gb746 ∧ k_ ≠ gb757 ∧ k_ ≠ gb791) (.slice Ao33 t753.length co33) t753) := ⟨(by rw [hw]; exact (by exact Kd.V_mono (pV HO_758004.out) (fun _ hk => ⟨hk.1.1, ⟨hk.1.2.1, ⟨hk.1.2.2, hk.2⟩⟩⟩)))⟩; have n6_ : Aside0 (Kd.V k49 49 w90 w.heap.size (fun k_ => k_ ≠ gb724 ∧ k_ ≠ gb746 ∧ k_ ≠ gb757 ∧ k_ ≠ gb791) (.slice Ao88 t783.length co88) t783) := ⟨(by rw [hw]; exact (by exact Kd.V_mono (pV HO785.out) (fun _ hk => ⟨hk.1.1, ⟨hk.1.2.1, ⟨hk.1.2.2, hk.2⟩⟩⟩)))⟩; have n7_ : Aside0 (Kd.V k51 51 w90 w.heap.size (fun k_ => k_ ≠ gb724 ∧ k_ ≠ gb746 ∧ k_ ≠ gb757 ∧ k_ ≠ gb791) (.slice Ao89 t787.length co89) t787) := ⟨(by rw [hw]; exact (by exact Kd.V_mono (pV HO789.out) (fun _ hk => ⟨hk.1.1, ⟨hk.1.2.1, ⟨hk.1.2.2, hk.2⟩⟩⟩)))⟩; have n8_ : Aside0 (w90.heap[gb724]? = some (.cells #[.string t725, .string t726, .slice Ao15 t727.length co15, .int .i64 t730, .slice Ao16 t731.length co16] 27 (0, 0))) := ⟨(by rw [hw]; exact (pk BK724.out))⟩; have n9_ : Aside0 (w90.heap[gb746]? = some (.cells #[.string t736, .string t737, .slice Ao23 t738.length co23, .int .i64 t741, .slice Ao24 t742.length co24] 27 (0, 0))) := ⟨(by rw [hw]; exact (pk BK746.out))⟩; have n10_ : Aside0 (w90.heap[gb757]? = some (.cells #[.string t747, .string t748, .slice Ao32 t749.length co32, .int .i64 t752, .slice Ao33 t753.length co33] 27 (0, 0))) := ⟨(by rw [hw]; exact (pk BK757.out))⟩; have n11_ : Aside0 (w90.heap[gb791]? = some (.cells #[.string t781, .string t782, .slice Ao88 t783.length co88, .int .i64 t786, .slice Ao89 t787.length co89] 27 (0, 0))) := ⟨(by rw [hw]; exact (pP BK791.out))⟩; have n12_ : Aside0 (Below w.heap.size w w90) := ⟨(by rw [hw]; exact (pB HB.out))⟩; clear hw HO_725002 HO_725004 HO_747002 HO_747004 HO_758002 HO_758004 HO785 HO789 BK724 BK746 BK757 BK791 HB; have HO_725002 := n0_; have HO_725004 := n1_; have HO_747002 := n2_; have HO_747004 := n3_; have HO_758002 := n4_; have HO_758004 := n5_; have HO785 := n6_; have HO789 := n7_; have BK724 := n8_; have BK746 := n9_; have BK757 := n10_; have BK791 := n11_; have HB := n12_; clear n0_ n1_ n2_ n3_ n4_ n5_ n6_ n7_ n8_ n9_ n10_ n11_ n12_; have hcz91_0 := y5 BK791) | ((with_reducible refine gC 23 ?_); refine gL 99 Try.func23 #[.agg #[.string t781, .string t782, .slice Ao88 t783.length co88, .int .i64 t786, .slice Ao89 t787.length co89], .int .i64 a1, .int .i64 1073741824] ?_; (with_reducible refine (Gh.calls kj35 t781 t782 (fun k_ => (k_ ≠ gb724 ∧ (k_ ≠ gb746 ∧ (k_ ≠ gb757 ∧ k_ ≠ gb791)))) _ _ t783 t786 (fun k_ => (k_ ≠ gb724 ∧ (k_ ≠ gb746 ∧ (k_ ≠ gb757 ∧ k_ ≠ gb791)))) _ _ t787 a1 1073741824 t793 t794 t795 t798 t799 t802 t803 _ ?side1 ?side2 A71.out).mono ?_); (case side1 => exact HO785.out); (case side2 => exact HO789.out); rintro e w92 ⟨v796, v800, rfl, ho0, ho1, hb⟩; refine ⟨_, rfl, ?_⟩; replace HO_725002 := vB HO_725002 hb; replace HO_725004 := vB HO_725004 hb; replace HO_747002 := vB HO_747002 hb; replace HO_747004 := vB HO_747004 hb; replace HO_758002 := vB HO_758002 hb; replace HO_758004 := vB HO_758004 hb; replace HO785 := vB HO785 hb; replace HO789 := vB HO789 hb; have HO797 := am (Kd.V_lower (Kd.V_mono (ok' := fun k_ => k_ ≠ gb724 ∧ k_ ≠ gb746 ∧ k_ ≠ gb757 ∧ k_ ≠ gb791) ho0 (fun k_ hk_ => ⟨Or.elim hk_ (fun hs_ => Or.elim hs_ (fun hs_ => hs_.1) (fun hs_ => hs_.1)) (fun hn_ => (Kd.freshB (pk BK724.out) k_ hn_)), Or.elim hk_ (fun hs_ => Or.elim hs_ (fun hs_ => hs_.2.1) (fun hs_ => hs_.2.1)) (fun hn_ => (Kd.freshB (pk BK746.out) k_ hn_)), Or.elim hk_ (fun hs_ => Or.elim hs_ (fun hs_ => hs_.2.2.1) (fun hs_ => hs_.2.2.1)) (fun hn_ => (Kd.freshB (pk BK757.out) k_ hn_)), Or.elim hk_ (fun hs_ => Or.elim hs_ (fun hs_ => hs_.2.2.2) (fun hs_ => hs_.2.2.2)) (fun hn_ => (Kd.freshB (pk BK791.out) k_ hn_))⟩)) (below_size (pB HB.out))); have HO801 := am (Kd.V_lower (Kd.V_mono (ok' := fun k_ => k_ ≠ gb724 ∧ k_ ≠ gb746 ∧ k_ ≠ gb757 ∧ k_ ≠ gb791) ho1 (fun k_ hk_ => ⟨Or.elim hk_ (fun hs_ => Or.elim hs_ (fun hs_ => hs_.1) (fun hs_ => hs_.1)) (fun hn_ => (Kd.freshB (pk BK724.out) k_ hn_)), Or.elim hk_ (fun hs_ => Or.elim hs_ (fun hs_ => hs_.2.1) (fun hs_ => hs_.2.1)) (fun hn_ => (Kd.freshB (pk BK746.out) k_ hn_)), Or.elim hk_ (fun hs_ => Or.elim hs_ (fun hs_ => hs_.2.2.1) (fun hs_ => hs_.2.2.1)) (fun hn_ => (Kd.freshB (pk BK757.out) k_ hn_)), Or.elim hk_ (fun hs_ => Or.elim hs_ (fun hs_ => hs_.2.2.2) (fun hs_ => hs_.2.2.2)) (fun hn_ => (Kd.freshB (pk BK791.out) k_ hn_))⟩)) (below_size (pB HB.out))); replace BK724 := kB BK724 hb; replace BK746 := kB BK746 hb; replace BK757 := kB BK757 hb; replace BK791 := kB BK791 hb; replace HB := bS HB hb; (try clear hb); (try clear hb2); (try clear hk); (try clear hi); (try clear ho0); (try clear ho1)) | ((with_reducible refine gD 19 ?_); refine bz 19 #[.string (⟨#[]⟩ : ByteArray), .string (⟨#[]⟩ : ByteArray), .slice none 0 0, .int .i64 0, .slice none 0 0] 27 HB ?_; clear HB; intro gb804 hg w93 hb BK804 GW804 HB; replace HO_725002 := vE HO_725002 hg hb; replace HO_725004 := vE HO_725004 hg hb; replace HO_747002 := vE HO_747002 hg hb; replace HO_747004 := vE HO_747004 hg hb; replace HO_758002 := vE HO_758002 hg hb; replace HO_758004 := vE HO_758004 hg hb; replace HO785 := vE HO785 hg hb; replace HO789 := vE HO789 hg hb; replace HO797 := vE HO797 hg hb; replace HO801 := vE HO801 hg hb; have NB724_804 := nL hg BK724; have NB804_724 := nG hg BK724; replace BK724 := kB BK724 hb; have NB746_804 := nL hg BK746; have NB804_746 := nG hg BK746; replace BK746 := kB BK746 hb; have NB757_804 := nL hg BK757; have NB804_757 := nG hg BK757; replace BK757 := kB BK757 hb; have NB791_804 := nL hg BK791; have NB804_791 := nG hg BK791; replace BK791 := kB BK791 hb; clear hb hg; have hnb94 := nn NB804_724; have hnb95 := nn NB804_746; have hnb96 := nn NB804_757; have hnb97 := nn NB804_791; have hcz98_0 := y5 BK804; obtain ⟨Ao99, co99, eo99⟩ := Kd.V_slice HO797.out; subst eo99; obtain ⟨Ao100, co100, eo100⟩ := Kd.V_slice HO801.out; subst eo100) | ((with_reducible refine gate_store (t := 27) (p := 19) rfl ?_); refine store_event (t := 27) (p := 19) (v := ?vo_w101) (w1 := (((((w93.setCell ⟨gb804, 0, none⟩ (.string t793)).setCell ⟨gb804, 1, none⟩ (.string t794)).setCell ⟨gb804, 2, none⟩ (.slice Ao99 t795.length co99)).setCell ⟨gb804, 3, none⟩ (.int .i64 t798)).setCell ⟨gb804, 4, none⟩ (.slice Ao100 t799.length co100))) ?hg ?ho ?hn ?hr ?_; (case ho => rfl); (case hg => rfl); (case hn => rfl); (case hr => first | (go_simp; done) | (go_simp; rfl)); intro w101 hw; have n0_ : Aside0 (Kd.V k49 49 w101 w.heap.size (fun k_ => k_ ≠ gb724 ∧ k_ ≠ gb746 ∧ k_ ≠ gb757 ∧ k_ ≠ gb791 ∧ k_ ≠ gb804) (.slice Ao15 t727.length co15) t727) := ⟨(by rw [hw]; exact (by exact Kd.V_mono (pV HO_725002.out) (fun _ hk => ⟨hk.1.1, ⟨hk.1.2.1, ⟨hk.1.2.2.1, ⟨hk.1.2.2.2, hk.2⟩⟩⟩⟩)))⟩; have n1_ : Aside0 (Kd.V k51 51 w101 w.heap.size (fun k_ => k_ ≠ gb724 ∧ k_ ≠ gb746 ∧ k_ ≠ gb757 ∧ k_ ≠ gb791 ∧ k_ ≠ gb804) (.slice Ao16 t731.length co16) t731) := ⟨(by rw [hw]; exact (by exact Kd.V_mono (pV HO_725004.out) (fun _ hk => ⟨hk.1.1, ⟨hk.1.2.1, ⟨hk.1.2.2.1, ⟨hk.1.2.2.2, hk.2⟩⟩⟩⟩)))⟩; have n2_ : Aside0 (Kd.V k49 49 w101 w.heap.size (fun k_ => k_ ≠ gb724 ∧ k_ ≠ gb746 ∧ k_ ≠ gb757 ∧ k_ ≠ gb791 ∧ k_ ≠ gb804) (.slice Ao23 t738.length co23) t738) := ⟨(by rw [hw]; exact (by exact Kd.V_mono (pV HO_747002.out) (fun _ hk => ⟨hk.1.1, ⟨hk.1.2.1, ⟨hk.1.2.2.1, ⟨hk.1.2.2.2, hk.2⟩⟩⟩⟩)))⟩; have n3_ : Aside0 (Kd.V k51 51 w101 w.heap.size (fun k_ => k_ ≠ gb724 ∧ k_ ≠ gb746 ∧ k_ ≠ gb757 ∧ k_ ≠ gb791 ∧ k_ ≠ gb804) (.slice Ao24 t742.length co24) t742) := ⟨(by rw [hw]; exact (by exact Kd.V_mono (pV HO_747004.out) (fun _ hk => ⟨hk.1.1, ⟨hk.1.2.1, ⟨hk.1.2.2.1, ⟨hk.1.2.2.2, hk.2⟩⟩⟩⟩)))⟩; have n4_ : Aside0 (Kd.V k49 49 w101 w.heap.size (fun k_ => k_ ≠ gb724 ∧ k_ ≠ gb746 ∧ k_ ≠ gb757 ∧ k_ ≠ gb791 ∧ k_ ≠ gb804) (.slice Ao32 t749.length co32) t749) := ⟨(by rw [hw]; exact (by exact Kd.V_mono (pV HO_758002.out) (fun _ hk => ⟨hk.1.1, ⟨hk.1.2.1, ⟨hk.1.2.2.1, ⟨hk.1.2.2.2, hk.2⟩⟩⟩⟩)))⟩; have n5_ : Aside0 (Kd.V k51 51 w101 w.heap.size (fun k_ => k_ ≠ gb724 ∧ k_ ≠ gb746 ∧ k_ ≠ gb757 ∧ k_ ≠ gb791 ∧ k_ ≠ gb804) (.slice Ao33 t753.length co33) t753) := ⟨(by rw [hw]; exact (by exact Kd.V_mono (pV HO_758004.out) (fun _ hk => ⟨hk.1.1, ⟨hk.1.2.1, ⟨hk.1.2.2.1, ⟨hk.1.2.2.2, hk.2⟩⟩⟩⟩)))⟩; have n6_ : Aside0 (Kd.V k49 49 w101 w.heap.size (fun k_ => k_ ≠ gb724 ∧ k_ ≠ gb746 ∧ k_ ≠ gb757 ∧ k_ ≠ gb791 ∧ k_ ≠ gb804) (.slice Ao88 t783.length co88) t783) := ⟨(by rw [hw]; exact (by exact Kd.V_mono (pV HO785.out) (fun _ hk => ⟨hk.1.1, ⟨hk.1.2.1, ⟨hk.1.2.2.1, ⟨hk.1.2.2.2, hk.2⟩⟩⟩⟩)))⟩; have n7_ : Aside0 (Kd.V k51 51 w101 w.heap.size (fun k_ => k_ ≠ gb724 ∧ k_ ≠ gb746 ∧ k_ ≠ gb757 ∧ k_ ≠ gb791 ∧ k_ ≠ gb804) (.slice Ao89 t787.length co89) t787) := ⟨(by rw [hw]; exact (by exact Kd.V_mono (pV HO789.out) (fun _ hk => ⟨hk.1.1, ⟨hk.1.2.1, ⟨hk.1.2.2.1, ⟨hk.1.2.2.2, hk.2⟩⟩⟩⟩)))⟩; have n8_ : Aside0 (Kd.V k49 49 w101 w.heap.size (fun k_ => k_ ≠ gb724 ∧ k_ ≠ gb746 ∧ k_ ≠ gb757 ∧ k_ ≠ gb791 ∧ k_ ≠ gb804) (.slice Ao99 t795.length co99) t795) := ⟨(by rw [hw]; exact (by exact Kd.V_mono (pV HO797.out) (fun _ hk => ⟨hk.1.1, ⟨hk.1.2.1, ⟨hk.1.2.2.1, ⟨hk.1.2.2.2, hk.2⟩⟩⟩⟩)))⟩; have n9_ : Aside0 (Kd.V k51 51 w101 w.heap.size (fun k_ => k_ ≠ gb724 ∧ k_ ≠ gb746 ∧ k_ ≠ gb757 ∧ k_ ≠ gb791 ∧ k_ ≠ gb804) (.slice Ao100 t799.length co100) t799) := ⟨(by rw [hw]; exact (by exact Kd.V_mono (pV HO801.out) (fun _ hk => ⟨hk.1.1, ⟨hk.1.2.1, ⟨hk.1.2.2.1, ⟨hk.1.2.2.2, hk.2⟩⟩⟩⟩)))⟩; have n10_ : Aside0 (w101.heap[gb724]? = some (.cells #[.string t725, .string t726, .slice Ao15 t727.length co15, .int .i64 t730, .slice Ao16 t731.length co16] 27 (0, 0))) := ⟨(by rw [hw]; exact (pk BK724.out))⟩; have n11_ : Aside0 (w101.heap[gb746]? = some (.cells #[.string t736, .string t737, .slice Ao23 t738.length co23, .int .i64 t741, .slice Ao24 t742.length co24] 27 (0, 0))) := ⟨(by rw [hw]; exact (pk BK746.out))⟩; have n12_ : Aside0 (w101.heap[gb757]? = some (.cells #[.string t747, .string t748, .slice Ao32 t749.length co32, .int .i64 t752, .slice Ao33 t753.length co33] 27 (0, 0))) := ⟨(by rw [hw]; exact (pk BK757.out))⟩; have n13_ : Aside0 (w101.heap[gb791]? = some (.cells #[.string t781, .string t782, .slice Ao88 t783.length co88, .int .i64 t786, .slice Ao89 t787.length co89] 27 (0, 0))) := ⟨(by rw [hw]; exact (pk BK791.out))⟩; have n14_ : Aside0 (w101.heap[gb804]? = some (.cells #[.string t793, .string t794, .slice Ao99 t795.length co99, .int .i64 t798, .slice Ao100 t799.length co100] 27 (0, 0))) := ⟨(by rw [hw]; exact (pP BK804.out))⟩; have n15_ : Aside0 (Below w.heap.size w w101) := ⟨(by rw [hw]; exact (pB HB.out))⟩; clear hw HO_725002 HO_725004 HO_747002 HO_747004 HO_758002 HO_758004 HO785 HO789 HO797 HO801 BK724 BK746 BK757 BK791 BK804 HB; have HO_725002 := n0_; have HO_725004 := n1_; have HO_747002 := n2_; have HO_747004 := n3_; have HO_758002 := n4_; have HO_758004 := n5_; have HO785 := n6_; have HO789 := n7_; have HO797 := n8_; have HO801 := n9_; have BK724 := n10_; have BK746 := n11_; have BK757 := n12_; have BK791 := n13_; have BK804 := n14_; have HB := n15_; clear n0_ n1_ n2_ n3_ n4_ n5_ n6_ n7_ n8_ n9_ n10_ n11_ n12_ n13_ n14_ n15_; have hcz102_0 := y5 BK791) | ((with_reducible refine gC 20 ?_); refine gL 107 Try.func20 #[.agg #[.string t781, .string t782, .slice Ao88 t783.length co88, .int .i64 t786, .slice Ao89 t787.length co89], .int .i64 a1, .int .i64 a2, .string (⟨#[120]⟩ : ByteArray)] ?_; (with_reducible refine (F5.calls kj35 t781 t782 (fun k_ => (k_ ≠ gb724 ∧ (k_ ≠ gb746 ∧ (k_ ≠ gb757 ∧ (k_ ≠ gb791 ∧ k_ ≠ gb804))))) _ _ t783 t786 (fun k_ => (k_ ≠ gb724 ∧ (k_ ≠ gb746 ∧ (k_ ≠ gb757 ∧ (k_ ≠ gb791 ∧ k_ ≠ gb804))))) _ _ t787 a1 a2 (⟨#[120]⟩ : ByteArray) t805 t806 t807 t810 t811 t814 _ ?side1 ?side2 A72.out).mono ?_); (case side1 => exact HO785.out); (case side2 => exact HO789.out); rintro e w103 ⟨v808, v812, rfl, ho0, ho1, hb⟩; refine ⟨_, rfl, ?_⟩; replace HO_725002 := vB HO_725002 hb; replace HO_725004 := vB HO_725004 hb; replace HO_747002 := vB HO_747002 hb; replace HO_747004 := vB HO_747004 hb; replace HO_758002 := vB HO_758002 hb; replace HO_758004 := vB HO_758004 hb; replace HO785 := vB HO785 hb; replace HO789 := vB HO789 hb; replace HO797 := vB HO797 hb; replace HO801 := vB HO801 hb; have HO809 := am (Kd.V_lower (Kd.V_mono (ok' := fun k_ => k_ ≠ gb724 ∧ k_ ≠ gb746 ∧ k_ ≠ gb757 ∧ k_ ≠ gb791 ∧ k_ ≠ gb804) ho0 (fun k_ hk_ => ⟨Or.elim hk_ (fun hs_ => Or.elim hs_ (fun hs_ => hs_.1) (fun hs_ => hs_.1)) (fun hn_ => (Kd.freshB (pk BK724.out) k_ hn_)), Or.elim hk_ (fun hs_ => Or.elim hs_ (fun hs_ => hs_.2.1) (fun hs_ => hs_.2.1)) (fun hn_ => (Kd.freshB (pk BK746.out) k_ hn_)), Or.elim hk_ (fun hs_ => Or.elim hs_ (fun hs_ => hs_.2.2.1) (fun hs_ => hs_.2.2.1)) (fun hn_ => (Kd.freshB (pk BK757.out) k_ hn_)), Or.elim hk_ (fun hs_ => Or.elim hs_ (fun hs_ => hs_.2.2.2.1) (fun hs_ => hs_.2.2.2.1)) (fun hn_ => (Kd.freshB (pk BK791.out) k_ hn_)), Or.elim hk_ (fun hs_ => Or.elim hs_ (fun hs_ => hs_.2.2.2.2) (fun hs_ => hs_.2.2.2.2)) (fun hn_ => (Kd.freshB (pk BK804.out) k_ hn_))⟩)) (below_size (pB HB.out))); have HO813 := am (Kd.V_lower (Kd.V_mono (ok' := fun k_ => k_ ≠ gb724 ∧ k_ ≠ gb746 ∧ k_ ≠ gb757 ∧ k_ ≠ gb791 ∧ k_ ≠ gb804) ho1 (fun k_ hk_ => ⟨Or.elim hk_ (fun hs_ => Or.elim hs_ (fun hs_ => hs_.1) (fun hs_ => hs_.1)) (fun hn_ => (Kd.freshB (pk BK724.out) k_ hn_)), Or.elim hk_ (fun hs_ => Or.elim hs_ (fun hs_ => hs_.2.1) (fun hs_ => hs_.2.1)) (fun hn_ => (Kd.freshB (pk BK746.out) k_ hn_)), Or.elim hk_ (fun hs_ => Or.elim hs_ (fun hs_ => hs_.2.2.1) (fun hs_ => hs_.2.2.1)) (fun hn_ => (Kd.freshB (pk BK757.out) k_ hn_)), Or.elim hk_ (fun hs_ => Or.elim hs_ (fun hs_ => hs_.2.2.2.1) (fun hs_ => hs_.2.2.2.1)) (fun hn_ => (Kd.freshB (pk BK791.out) k_ hn_)), Or.elim hk_ (fun hs_ => Or.elim hs_ (fun hs_ => hs_.2.2.2.2) (fun hs_ => hs_.2.2.2.2)) (fun hn_ => (Kd.freshB (pk BK804.out) k_ hn_))⟩)) (below_size (pB HB.out))); replace BK724 := kB BK724 hb; replace BK746 := kB BK746 hb; replace BK757 := kB BK757 hb; replace BK791 := kB BK791 hb; replace BK804 := kB BK804 hb; replace HB := bS HB hb; (try clear hb); (try clear hb2); (try clear hk); (try clear hi); (try clear ho0); (try clear ho1)) | ((with_reducible refine gD 22 ?_); refine bz 22 #[.string (⟨#[]⟩ : ByteArray), .string (⟨#[]⟩ : ByteArray), .slice none 0 0, .int .i64 0, .slice none 0 0] 27 HB ?_; clear HB; intro gb815 hg w104 hb BK815 GW815 HB; replace HO_725002 := vE HO_725002 hg hb; replace HO_725004 := vE HO_725004 hg hb; replace HO_747002 := vE HO_747002 hg hb; replace HO_747004 := vE HO_747004 hg hb; replace HO_758002 := vE HO_758002 hg hb; replace HO_758004 := vE HO_758004 hg hb; replace HO785 := vE HO785 hg hb; replace HO789 := vE HO789 hg hb; replace HO797 := vE HO797 hg hb; replace HO801 := vE HO801 hg hb; replace HO809 := vE HO809 hg hb; replace HO813 := vE HO813 hg hb; have NB724_815 := nL hg BK724; have NB815_724 := nG hg BK724; replace BK724 := kB BK724 hb; have NB746_815 := nL hg BK746; have NB815_746 := nG hg BK746; replace BK746 := kB BK746 hb; have NB757_815 := nL hg BK757; have NB815_757 := nG hg BK757; replace BK757 := kB BK757 hb; have NB791_815 := nL hg BK791; have NB815_791 := nG hg BK791; replace BK791 := kB BK791 hb; have NB804_815 := nL hg BK804; have NB815_804 := nG hg BK804; replace BK804 := kB BK804 hb; clear hb hg; have hnb105 := nn NB815_724; have hnb106 := nn NB815_746; have hnb107 := nn NB815_757; have hnb108 := nn NB815_791; have hnb109 := nn NB815_804; have hcz110_0 := y5 BK815; obtain ⟨Ao111, co111, eo111⟩ := Kd.V_slice HO809.out; subst eo111; obtain ⟨Ao112, co112, eo112⟩ := Kd.V_slice HO813.out; subst eo112) | ((with_reducible refine gate_store (t := 27) (p := 22) rfl ?_); refine store_event (t := 27) (p := 22) (v := ?vo_w113) (w1 := (((((w104.setCell ⟨gb815, 0, none⟩ (.string t805)).setCell ⟨gb815, 1, none⟩ (.string t806)).setCell ⟨gb815, 2, none⟩ (.slice Ao111 t807.length co111)).setCell ⟨gb815, 3, none⟩ (.int .i64 t810)).setCell ⟨gb815, 4, none⟩ (.slice Ao112 t811.length co112))) ?hg ?ho ?hn ?hr ?_; (case ho => rfl); (case hg => rfl); (case hn => rfl); (case hr => first | (go_simp; done) | (go_simp; rfl)); intro w113 hw; have n0_ : Aside0 (Kd.V k49 49 w113 w.heap.size (fun k_ => k_ ≠ gb724 ∧ k_ ≠ gb746 ∧ k_ ≠ gb757 ∧ k_ ≠ gb791 ∧ k_ ≠ gb804 ∧ k_ ≠ gb815) (.slice Ao15 t727.length co15) t727) := ⟨(by rw [hw]; exact (by exact Kd.V_mono (pV HO_725002.out) (fun _ hk => ⟨hk.1.1, ⟨hk.1.2.1, ⟨hk.1.2.2.1, ⟨hk.1.2.2.2.1, ⟨hk.1.2.2.2.2, hk.2⟩⟩⟩⟩⟩)))⟩; have n1_ : Aside0 (Kd.V k51 51 w113 w.heap.size (fun k_ => k_ ≠ gb724 ∧ k_ ≠ gb746 ∧ k_ ≠ gb757 ∧ k_ ≠ gb791 ∧ k_ ≠ gb804 ∧ k_ ≠ gb815) (.slice Ao16 t731.length co16) t731) := ⟨(by rw [hw]; exact (by exact Kd.V_mono (pV HO_725004.out) (fun _ hk => ⟨hk.1.1, ⟨hk.1.2.1, ⟨hk.1.2.2.1, ⟨hk.1.2.2.2.1, ⟨hk.1.2.2.2.2, hk.2⟩⟩⟩⟩⟩)))⟩; have n2_ : Aside0 (Kd.V k49 49 w113 w.heap.size (fun k_ => k_ ≠ gb724 ∧ k_ ≠ gb746 ∧ k_ ≠ gb757 ∧ k_ ≠ gb791 ∧ k_ ≠ gb804 ∧ k_ ≠ gb815) (.slice Ao23 t738.length co23) t738) := ⟨(by rw [hw]; exact (by exact Kd.V_mono (pV HO_747002.out) (fun _ hk => ⟨hk.1.1, ⟨hk.1.2.1, ⟨hk.1.2.2.1, ⟨hk.1.2.2.2.1, ⟨hk.1.2.2.2.2, hk.2⟩⟩⟩⟩⟩)))⟩; have n3_ : Aside0 (Kd.V k51 51 w113 w.heap.size (fun k_ => k_ ≠ gb724 ∧ k_ ≠ gb746 ∧ k_ ≠ gb757 ∧ k_ ≠ gb791 ∧ k_ ≠ gb804 ∧ k_ ≠ gb815) (.slice Ao24 t742.length co24) t742) := ⟨(by rw [hw]; exact (by exact Kd.V_mono (pV HO_747004.out) (fun _ hk => ⟨hk.1.1, ⟨hk.1.2.1, ⟨hk.1.2.2.1, ⟨hk.1.2.2.2.1, ⟨hk.1.2.2.2.2, hk.2⟩⟩⟩⟩⟩)))⟩; have n4_ : Aside0 (Kd.V k49 49 w113 w.heap.size (fun k_ => k_ ≠ gb724 ∧ k_ ≠ gb746 ∧ k_ ≠ gb757 ∧ k_ ≠ gb791 ∧ k_ ≠ gb804 ∧ k_ ≠ gb815) (.slice Ao32 t749.length co32) t749) := ⟨(by rw [hw]; exact (by exact Kd.V_mono (pV HO_758002.out) (fun _ hk => ⟨hk.1.1, ⟨hk.1.2.1, ⟨hk.1.2.2.1, ⟨hk.1.2.2.2.1, ⟨hk.1.2.2.2.2, hk.2⟩⟩⟩⟩⟩)))⟩; have n5_ : Aside0 (Kd.V k51 51 w113 w.heap.size (fun k_ => k_ ≠ gb724 ∧ k_ ≠ gb746 ∧ k_ ≠ gb757 ∧ k_ ≠ gb791 ∧ k_ ≠ gb804 ∧ k_ ≠ gb815) (.slice Ao33 t753.length co33) t753) := ⟨(by rw [hw]; exact (by exact Kd.V_mono (pV HO_758004.out) (fun _ hk => ⟨hk.1.1, ⟨hk.1.2.1, ⟨hk.1.2.2.1, ⟨hk.1.2.2.2.1, ⟨hk.1.2.2.2.2, hk.2⟩⟩⟩⟩⟩)))⟩; have n6_ : Aside0 (Kd.V k49 49 w113 w.heap.size (fun k_ => k_ ≠ gb724 ∧ k_ ≠ gb746 ∧ k_ ≠ gb757 ∧ k_ ≠ gb791 ∧ k_ ≠ gb804 ∧ k_ ≠ gb815) (.slice Ao88 t783.length co88) t783) := ⟨(by rw [hw]; exact (by exact Kd.V_mono (pV HO785.out) (fun _ hk => ⟨hk.1.1, ⟨hk.1.2.1, ⟨hk.1.2.2.1, ⟨hk.1.2.2.2.1, ⟨hk.1.2.2.2.2, hk.2⟩⟩⟩⟩⟩)))⟩; have n7_ : Aside0 (Kd.V k51 51 w113 w.heap.size (fun k_ => k_ ≠ gb724 ∧ k_ ≠ gb746 ∧ k_ ≠ gb757 ∧ k_ ≠ gb791 ∧ k_ ≠ gb804 ∧ k_ ≠ gb815) (.slice Ao89 t787.length co89) t787) := ⟨(by rw [hw]; exact (by exact Kd.V_mono (pV HO789.out) (fun _ hk => ⟨hk.1.1, ⟨hk.1.2.1, ⟨hk.1.2.2.1, ⟨hk.1.2.2.2.1, ⟨hk.1.2.2.2.2, hk.2⟩⟩⟩⟩⟩)))⟩; have n8_ : Aside0 (Kd.V k49 49 w113 w.heap.size (fun k_ => k_ ≠ gb724 ∧ k_ ≠ gb746 ∧ k_ ≠ gb757 ∧ k_ ≠ gb791 ∧ k_ ≠ gb804 ∧ k_ ≠ gb815) (.slice Ao99 t795.length co99) t795) := ⟨(by rw [hw]; exact (by exact Kd.V_mono (pV HO797.out) (fun _ hk => ⟨hk.1.1, ⟨hk.1.2.1, ⟨hk.1.2.2.1, ⟨hk.1.2.2.2.1, ⟨hk.1.2.2.2.2, hk.2⟩⟩⟩⟩⟩)))⟩; have n9_ : Aside0 (Kd.V k51 51 w113 w.heap.size (fun k_ => k_ ≠ gb724 ∧ k_ ≠ gb746 ∧ k_ ≠ gb757 ∧ k_ ≠ gb791 ∧ k_ ≠ gb804 ∧ k_ ≠ gb815) (.slice Ao100 t799.length co100) t799) := ⟨(by rw [hw]; exact (by exact Kd.V_mono (pV HO801.out) (fun _ hk => ⟨hk.1.1, ⟨hk.1.2.1, ⟨hk.1.2.2.1, ⟨hk.1.2.2.2.1, ⟨hk.1.2.2.2.2, hk.2⟩⟩⟩⟩⟩)))⟩; have n10_ : Aside0 (Kd.V k49 49 w113 w.heap.size (fun k_ => k_ ≠ gb724 ∧ k_ ≠ gb746 ∧ k_ ≠ gb757 ∧ k_ ≠ gb791 ∧ k_ ≠ gb804 ∧ k_ ≠ gb815) (.slice Ao111 t807.length co111) t807) := ⟨(by rw [hw]; exact (by exact Kd.V_mono (pV HO809.out) (fun _ hk => ⟨hk.1.1, ⟨hk.1.2.1, ⟨hk.1.2.2.1, ⟨hk.1.2.2.2.1, ⟨hk.1.2.2.2.2, hk.2⟩⟩⟩⟩⟩)))⟩; have n11_ : Aside0 (Kd.V k51 51 w113 w.heap.size (fun k_ => k_ ≠ gb724 ∧ k_ ≠ gb746 ∧ k_ ≠ gb757 ∧ k_ ≠ gb791 ∧ k_ ≠ gb804 ∧ k_ ≠ gb815) (.slice Ao112 t811.length co112) t811) := ⟨(by rw [hw]; exact (by exact Kd.V_mono (pV HO813.out) (fun _ hk => ⟨hk.1.1, ⟨hk.1.2.1, ⟨hk.1.2.2.1, ⟨hk.1.2.2.2.1, ⟨hk.1.2.2.2.2, hk.2⟩⟩⟩⟩⟩)))⟩; have n12_ : Aside0 (w113.heap[gb724]? = some (.cells #[.string t725, .string t726, .slice Ao15 t727.length co15, .int .i64 t730, .slice Ao16 t731.length co16] 27 (0, 0))) := ⟨(by rw [hw]; exact (pk BK724.out))⟩; have n13_ : Aside0 (w113.heap[gb746]? = some (.cells #[.string t736, .string t737, .slice Ao23 t738.length co23, .int .i64 t741, .slice Ao24 t742.length co24] 27 (0, 0))) := ⟨(by rw [hw]; exact (pk BK746.out))⟩; have n14_ : Aside0 (w113.heap[gb757]? = some (.cells #[.string t747, .string t748, .slice Ao32 t749.length co32, .int .i64 t752, .slice Ao33 t753.length co33] 27 (0, 0))) := ⟨(by rw [hw]; exact (pk BK757.out))⟩; have n15_ : Aside0 (w113.heap[gb791]? = some (.cells #[.string t781, .string t782, .slice Ao88 t783.length co88, .int .i64 t786, .slice Ao89 t787.length co89] 27 (0, 0))) := ⟨(by rw [hw]; exact (pk BK791.out))⟩; have n16_ : Aside0 (w113.heap[gb804]? = some (.cells #[.string t793, .string t794, .slice Ao99 t795.length co99, .int .i64 t798, .slice Ao100 t799.length co100] 27 (0, 0))) := ⟨(by rw [hw]; exact (pk BK804.out))⟩; have n17_ : Aside0 (w113.heap[gb815]? = some (.cells #[.string t805, .string t806, .slice Ao111 t807.length co111, .int .i64 t810, .slice Ao112 t811.length co112] 27 (0, 0))) := ⟨(by rw [hw]; exact (pP BK815.out))⟩; have n18_ : Aside0 (Below w.heap.size w w113) := ⟨(by rw [hw]; exact (pB HB.out))⟩; clear hw HO_725002 HO_725004 HO_747002 HO_747004 HO_758002 HO_758004 HO785 HO789 HO797 HO801 HO809 HO813 BK724 BK746 BK757 BK791 BK804 BK815 HB; have HO_725002 := n0_; have HO_725004 := n1_; have HO_747002 := n2_; have HO_747004 := n3_; have HO_758002 := n4_; have HO_758004 := n5_; have HO785 := n6_; have HO789 := n7_; have HO797 := n8_; have HO801 := n9_; have HO809 := n10_; have HO813 := n11_; have BK724 := n12_; have BK746 := n13_; have BK757 := n14_; have BK791 := n15_; have BK804 := n16_; have BK815 := n17_; have HB := n18_; clear n0_ n1_ n2_ n3_ n4_ n5_ n6_ n7_ n8_ n9_ n10_ n11_ n12_ n13_ n14_ n15_ n16_ n17_ n18_; have hcz114_0 := y5 BK791) | ((with_reducible refine gC 24 ?_); refine gL 113 Try.func24 #[.agg #[.string t781, .string t782, .slice Ao88 t783.length co88, .int .i64 t786, .slice Ao89 t787.length co89], .int .i64 a1] ?_; (with_reducible refine (F9.calls kj35 t781 t782 (fun k_ => (k_ ≠ gb724 ∧ (k_ ≠ gb746 ∧ (k_ ≠ gb757 ∧ (k_ ≠ gb791 ∧ (k_ ≠ gb804 ∧ k_ ≠ gb815)))))) _ _ t783 t786 (fun k_ => (k_ ≠ gb724 ∧ (k_ ≠ gb746 ∧ (k_ ≠ gb757 ∧ (k_ ≠ gb791 ∧ (k_ ≠ gb804 ∧ k_ ≠ gb815)))))) _ _ t787 a1 t816 t817 t818 t821 t822 t825 _ ?side1 ?side2 A73.out).mono ?_); (case side1 => exact HO785.out); (case side2 => exact HO789.out); rintro e w115 ⟨v819, v823, rfl, ho0, ho1, hb⟩; refine ⟨_, rfl, ?_⟩; replace HO_725002 := vB HO_725002 hb; replace HO_725004 := vB HO_725004 hb; replace HO_747002 := vB HO_747002 hb; replace HO_747004 := vB HO_747004 hb; replace HO_758002 := vB HO_758002 hb; replace HO_758004 := vB HO_758004 hb; replace HO785 := vB HO785 hb; replace HO789 := vB HO789 hb; replace HO797 := vB HO797 hb; replace HO801 := vB HO801 hb; replace HO809 := vB HO809 hb; replace HO813 := vB HO813 hb; have HO820 := am (Kd.V_lower (Kd.V_mono (ok' := fun k_ => k_ ≠ gb724 ∧ k_ ≠ gb746 ∧ k_ ≠ gb757 ∧ k_ ≠ gb791 ∧ k_ ≠ gb804 ∧ k_ ≠ gb815) ho0 (fun k_ hk_ => ⟨Or.elim hk_ (fun hs_ => Or.elim hs_ (fun hs_ => hs_.1) (fun hs_ => hs_.1)) (fun hn_ => (Kd.freshB (pk BK724.out) k_ hn_)), Or.elim hk_ (fun hs_ => Or.elim hs_ (fun hs_ => hs_.2.1) (fun hs_ => hs_.2.1)) (fun hn_ => (Kd.freshB (pk BK746.out) k_ hn_)), Or.elim hk_ (fun hs_ => Or.elim hs_ (fun hs_ => hs_.2.2.1) (fun hs_ => hs_.2.2.1)) (fun hn_ => (Kd.freshB (pk BK757.out) k_ hn_)), Or.elim hk_ (fun hs_ => Or.elim hs_ (fun hs_ => hs_.2.2.2.1) (fun hs_ => hs_.2.2.2.1)) (fun hn_ => (Kd.freshB (pk BK791.out) k_ hn_)), Or.elim hk_ (fun hs_ => Or.elim hs_ (fun hs_ => hs_.2.2.2.2.1) (fun hs_ => hs_.2.2.2.2.1)) (fun hn_ => (Kd.freshB (pk BK804.out) k_ hn_)), Or.elim hk_ (fun hs_ => Or.elim hs_ (fun hs_ => hs_.2.2.2.2.2) (fun hs_ => hs_.2.2.2.2.2)) (fun hn_ => (Kd.freshB (pk BK815.out) k_ hn_))⟩)) (below_size (pB HB.out))); have HO824 := am (Kd.V_lower (Kd.V_mono (ok' := fun k_ => k_ ≠ gb724 ∧ k_ ≠ gb746 ∧ k_ ≠ gb757 ∧ k_ ≠ gb791 ∧ k_ ≠ gb804 ∧ k_ ≠ gb815) ho1 (fun k_ hk_ => ⟨Or.elim hk_ (fun hs_ => Or.elim hs_ (fun hs_ => hs_.1) (fun hs_ => hs_.1)) (fun hn_ => (Kd.freshB (pk BK724.out) k_ hn_)), Or.elim hk_ (fun hs_ => Or.elim hs_ (fun hs_ => hs_.2.1) (fun hs_ => hs_.2.1)) (fun hn_ => (Kd.freshB (pk BK746.out) k_ hn_)), Or.elim hk_ (fun hs_ => Or.elim hs_ (fun hs_ => hs_.2.2.1) (fun hs_ => hs_.2.2.1)) (fun hn_ => (Kd.freshB (pk BK757.out) k_ hn_)), Or.elim hk_ (fun hs_ => Or.elim hs_ (fun hs_ => hs_.2.2.2.1) (fun hs_ => hs_.2.2.2.1)) (fun hn_ => (Kd.freshB (pk BK791.out) k_ hn_)), Or.elim hk_ (fun hs_ => Or.elim hs_ (fun hs_ => hs_.2.2.2.2.1) (fun hs_ => hs_.2.2.2.2.1)) (fun hn_ => (Kd.freshB (pk BK804.out) k_ hn_)), Or.elim hk_ (fun hs_ => Or.elim hs_ (fun hs_ => hs_.2.2.2.2.2) (fun hs_ => hs_.2.2.2.2.2)) (fun hn_ => (Kd.freshB (pk BK815.out) k_ hn_))⟩)) (below_size (pB HB.out))); replace BK724 := kB BK724 hb; replace BK746 := kB BK746 hb; replace BK757 := kB BK757 hb; replace BK791 := kB BK791 hb; replace BK804 := kB BK804 hb; replace BK815 := kB BK815 hb; replace HB := bS HB hb; (try clear hb); (try clear hb2); (try clear hk); (try clear hi); (try clear ho0); (try clear ho1)) | ((with_reducible refine gD 24 ?_); refine bz 24 #[.string (⟨#[]⟩ : ByteArray), .string (⟨#[]⟩ : ByteArray), .slice none 0 0, .int .i64 0, .slice none 0 0] 27 HB ?_; clear HB; intro gb826 hg w116 hb BK826 GW826 HB; replace HO_725002 := vE HO_725002 hg hb; replace HO_725004 := vE HO_725004 hg hb; replace HO_747002 := vE HO_747002 hg hb; replace HO_747004 := vE HO_747004 hg hb; replace HO_758002 := vE HO_758002 hg hb; replace HO_758004 := vE HO_758004 hg hb; replace HO785 := vE HO785 hg hb; replace HO789 := vE HO789 hg hb; replace HO797 := vE HO797 hg hb; replace HO801 := vE HO801 hg hb; replace HO809 := vE HO809 hg hb; replace HO813 := vE HO813 hg hb; replace HO820 := vE HO820 hg hb; replace HO824 := vE HO824 hg hb; have NB724_826 := nL hg BK724; have NB826_724 := nG hg BK724; replace BK724 := kB BK724 hb; have NB746_826 := nL hg BK746; have NB826_746 := nG hg BK746; replace BK746 := kB BK746 hb; have NB757_826 := nL hg BK757; have NB826_757 := nG hg BK757; replace BK757 := kB BK757 hb; have NB791_826 := nL hg BK791; have NB826_791 := nG hg BK791; replace BK791 := kB BK791 hb; have NB804_826 := nL hg BK804; have NB826_804 := nG hg BK804; replace BK804 := kB BK804 hb; have NB815_826 := nL hg BK815; have NB826_815 := nG hg BK815; replace BK815 := kB BK815 hb; clear hb hg; have hnb117 := nn NB826_724; have hnb118 := nn NB826_746; have hnb119 := nn NB826_757; have hnb120 := nn NB826_791; have hnb121 := nn NB826_804; have hnb122 := nn NB826_815; have hcz123_0 := y5 BK826; obtain ⟨Ao124, co124, eo124⟩ := Kd.V_slice HO820.out; subst eo124; obtain ⟨Ao125, co125, eo125⟩ := Kd.V_slice HO824.out; subst eo125) | ((with_reducible refine gC 16 ?_); refine gL 116 Try.func16 #[] ?_; (with_reducible refine (Fv.calls kj35  true _ A74.out).mono ?_); rintro e w126 ⟨rfl, hb⟩; refine ⟨_, rfl, ?_⟩; replace HO_725002 := vB HO_725002 hb; replace HO_725004 := vB HO_725004 hb; replace HO_747002 := vB HO_747002 hb; replace HO_747004 := vB HO_747004 hb; replace HO_758002 := vB HO_758002 hb; replace HO_758004 := vB HO_758004 hb; replace HO785 := vB HO785 hb; replace HO789 := vB HO789 hb; replace HO797 := vB HO797 hb; replace HO801 := vB HO801 hb; replace HO809 := vB HO809 hb; replace HO813 := vB HO813 hb; replace HO820 := vB HO820 hb; replace HO824 := vB HO824 hb; replace BK724 := kB BK724 hb; replace BK746 := kB BK746 hb; replace BK757 := kB BK757 hb; replace BK791 := kB BK791 hb; replace BK804 := kB BK804 hb; replace BK815 := kB BK815 hb; replace BK826 := am (blk_below (g := gb826) (o := .cells #[.string t816, .string t817, .slice Ao124 t818.length co124, .int .i64 t821, .slice Ao125 t822.length co125] 27 (0, 0)) (pP BK826.out) hb); replace HB := bS HB hb; (try clear hb); (try clear hb2); (try clear hk); (try clear hi); have hcz127_0 := y5 BK791))
           go_ret
           exact ⟨er, pB HB.out⟩
          rw [if_neg c78] at H
          exact absurd H (by simp)
         rw [if_neg c77] at H
         exact absurd H (by simp)
        rw [if_neg c76] at H
        exact absurd H (by simp)
       replace c75 := Bool.eq_false_iff.mpr c75
       subst c75
       rw [if_neg (show ¬ (false = true) by decide)] at H
       try dsimp only at H
       exact absurd H (by simp)
      rw [if_neg c70] at H
      obtain ⟨c70b0, c70b1⟩ := qf c70
      replace H := Option.bind_eq_some_iff.mp H
      obtain ⟨t792, A1280, H⟩ := H
      try dsimp only at H
      have A128 := am A1280
      clear A1280
      by_cases c129 : t792 = true
      ·
       subst c129
       rw [if_pos rfl] at H
       try dsimp only at H
       obtain rfl := Option.some.inj H
       have hnb130 := nn NB724_746
       have hnb131 := nn NB724_757
       have hcz132_0 := y5 BK724
       go_wp2_with (first | ((with_reducible refine gC 24 ?_); refine gL 86 Try.func24 #[.agg #[.string t725, .string t726, .slice Ao15 t727.length co15, .int .i64 t730, .slice Ao16 t731.length co16], .int .i64 a1] ?_; (with_reducible refine (F9.calls kj35 t725 t726 (fun k_ => (k_ ≠ gb724 ∧ (k_ ≠ gb746 ∧ k_ ≠ gb757))) _ _ t727 t730 (fun k_ => (k_ ≠ gb724 ∧ (k_ ≠ gb746 ∧ k_ ≠ gb757))) _ _ t731 a1 t781 t782 t783 t786 t787 t790 _ ?side1 ?side2 A69.out).mono ?_); (case side1 => exact HO_725002.out); (case side2 => exact HO_725004.out); rintro e w133 ⟨v784, v788, rfl, ho0, ho1, hb⟩; refine ⟨_, rfl, ?_⟩; replace HO_725002 := vB HO_725002 hb; replace HO_725004 := vB HO_725004 hb; replace HO_747002 := vB HO_747002 hb; replace HO_747004 := vB HO_747004 hb; replace HO_758002 := vB HO_758002 hb; replace HO_758004 := vB HO_758004 hb; have HO785 := am (Kd.V_lower (Kd.V_mono (ok' := fun k_ => k_ ≠ gb724 ∧ k_ ≠ gb746 ∧ k_ ≠ gb757) ho0 (fun k_ hk_ => ⟨Or.elim hk_ (fun hs_ => Or.elim hs_ (fun hs_ => hs_.1) (fun hs_ => hs_.1)) (fun hn_ => (Kd.freshB (pk BK724.out) k_ hn_)), Or.elim hk_ (fun hs_ => Or.elim hs_ (fun hs_ => hs_.2.1) (fun hs_ => hs_.2.1)) (fun hn_ => (Kd.freshB (pk BK746.out) k_ hn_)), Or.elim hk_ (fun hs_ => Or.elim hs_ (fun hs_ => hs_.2.2) (fun hs_ => hs_.2.2)) (fun hn_ => (Kd.freshB (pk BK757.out) k_ hn_))⟩)) (below_size (pB HB.out))); have HO789 := am (Kd.V_lower (Kd.V_mono (ok' := fun k_ => k_ ≠ gb724 ∧ k_ ≠ gb746 ∧ k_ ≠ gb757) ho1 (fun k_ hk_ => ⟨Or.elim hk_ (fun hs_ => Or.elim hs_ (fun hs_ => hs_.1) (fun hs_ => hs_.1)) (fun hn_ => (Kd.freshB (pk BK724.out) k_ hn_)), Or.elim hk_ (fun hs_ => Or.elim hs_ (fun hs_ => hs_.2.1) (fun hs_ => hs_.2.1)) (fun hn_ => (Kd.freshB (pk BK746.out) k_ hn_)), Or.elim hk_ (fun hs_ => Or.elim hs_ (fun hs_ => hs_.2.2) (fun hs_ => hs_.2.2)) (fun hn_ => (Kd.freshB (pk BK757.out) k_ hn_))⟩)) (below_size (pB HB.out))); replace BK724 := kB BK724 hb; replace BK746 := kB BK746 hb; replace BK757 := kB BK757 hb; replace HB := bS HB hb; (try clear hb); (try clear hb2); (try clear hk); (try clear hi); (try clear ho0); (try clear ho1)) | ((with_reducible refine gD 17 ?_); refine bz 17 #[.string (⟨#[]⟩ : ByteArray), .string (⟨#[]⟩ : ByteArray), .slice none 0 0, .int .i64 0, .slice none 0 0] 27 HB ?_; clear HB; intro gb791 hg w134 hb BK791 GW791 HB; replace HO_725002 := vE HO_725002 hg hb; replace HO_725004 := vE HO_725004 hg hb; replace HO_747002 := vE HO_747002 hg hb; replace HO_747004 := vE HO_747004 hg hb; replace HO_758002 := vE HO_758002 hg hb; replace HO_758004 := vE HO_758004 hg hb; replace HO785 := vE HO785 hg hb; replace HO789 := vE HO789 hg hb; have NB724_791 := nL hg BK724; have NB791_724 := nG hg BK724; replace BK724 := kB BK724 hb; have NB746_791 := nL hg BK746; have NB791_746 := nG hg BK746; replace BK746 := kB BK746 hb; have NB757_791 := nL hg BK757; have NB791_757 := nG hg BK757; replace BK757 := kB BK757 hb; clear hb hg; have hnb135 := nn NB791_724; have hnb136 := nn NB791_746; have hnb137 := nn NB791_757; have hcz138_0 := y5 BK791; obtain ⟨Ao139, co139, eo139⟩ := Kd.V_slice HO785.out; subst eo139; obtain ⟨Ao140, co140, eo140⟩ := Kd.V_slice HO789.out; subst eo140) | ((with_reducible refine gC 16 ?_); refine gL 91 Try.func16 #[] ?_; (with_reducible refine (Fv.calls kj35  true _ A128.out).mono ?_); rintro e w141 ⟨rfl, hb⟩; refine ⟨_, rfl, ?_⟩; replace HO_725002 := vB HO_725002 hb; replace HO_725004 := vB HO_725004 hb; replace HO_747002 := vB HO_747002 hb; replace HO_747004 := vB HO_747004 hb; replace HO_758002 := vB HO_758002 hb; replace HO_758004 := vB HO_758004 hb; replace HO785 := vB HO785 hb; replace HO789 := vB HO789 hb; replace BK724 := kB BK724 hb; replace BK746 := kB BK746 hb; replace BK757 := kB BK757 hb; replace BK791 := am (blk_below (g := gb791) (o := .cells #[.string t781, .string t782, .slice Ao139 t783.length co139, .int .i64 t786, .slice Ao140 t787.length co140] 27 (0, 0)) (pP BK791.out) hb); replace HB := bS HB hb; (try clear hb); (try clear hb2); (try clear hk); (try clear hi)))
       go_ret
       exact ⟨er, pB HB.out⟩
      replace c129 := Bool.eq_false_iff.mpr c129
      subst c129
      rw [if_neg (show ¬ (false = true) by decide)] at H
      try dsimp only at H
      exact absurd H (by simp)
 replace c7 := Bool.eq_false_iff.mpr c7
 subst c7
 rw [if_neg (show ¬ (false = true) by decide)] at H
 try dsimp only at H
 replace H := Option.bind_eq_some_iff.mp H
 obtain ⟨t735, A1420, H⟩ := H
 try dsimp only at H
 have A142 := am A1420
 clear A1420
 obtain rfl := Option.some.inj H
 go_enter Try.func7, Try.ntmps7
 go_wp2_with (first | ((with_reducible refine gD 4 ?_); refine bz 4 #[.string a0_0, .string a0_1, .slice A0_2 l0_2.length c0_2, .int .i64 a0_3, .slice A0_4 l0_4.length c0_4] 27 HB ?_; clear HB; intro gb724 hg w143 hb BK724 GW724 HB; clear hb hg; have hcz144_0 := y5 BK724) | ((with_reducible refine gC 9 ?_); refine gL 27 Try.func9 #[.agg #[.string a0_0, .string a0_1, .slice A0_2 l0_2.length c0_2, .int .i64 a0_3, .slice A0_4 l0_4.length c0_4]] ?_; (with_reducible refine (F4.calls k a0_0 a0_1 (fun k_ => k_ < w.heap.size) _ _ l0_2 a0_3 (fun k_ => k_ < w.heap.size) _ _ l0_4 t725 t726 t727 t730 t731 _ ?side1 ?side2 A5.out).mono ?_); (case side1 => exact Kd.V_mk HC0_2.out (Kd.F_below (Kd.C_F k49_heap HR0_2.out) (pB HB.out))); (case side2 => exact Kd.V_mk HC0_4.out (Kd.F_below (Kd.C_F k51_heap HR0_4.out) (pB HB.out))); rintro e w145 ⟨v728, v732, rfl, ho0, ho1, hb⟩; refine ⟨_, rfl, ?_⟩; have HO729 := am (Kd.V_lower (Kd.V_mono (ok' := fun k_ => k_ ≠ gb724) ho0 (fun k_ hk_ => Or.elim hk_ (fun hs_ => Or.elim hs_ (fun hs_ => fun e_ => Nat.not_le.2 hs_ (by rw [e_]; exact GW724.out)) (fun hs_ => fun e_ => Nat.not_le.2 hs_ (by rw [e_]; exact GW724.out))) (fun hn_ => (Kd.freshB (pk BK724.out) k_ hn_)))) (below_size (pB HB.out))); have HO733 := am (Kd.V_lower (Kd.V_mono (ok' := fun k_ => k_ ≠ gb724) ho1 (fun k_ hk_ => Or.elim hk_ (fun hs_ => Or.elim hs_ (fun hs_ => fun e_ => Nat.not_le.2 hs_ (by rw [e_]; exact GW724.out)) (fun hs_ => fun e_ => Nat.not_le.2 hs_ (by rw [e_]; exact GW724.out))) (fun hn_ => (Kd.freshB (pk BK724.out) k_ hn_)))) (below_size (pB HB.out))); replace BK724 := kB BK724 hb; replace HB := bS HB hb; (try clear hb); (try clear hb2); (try clear hk); (try clear hi); (try clear ho0); (try clear ho1); have hcz146_0 := y5 BK724; obtain ⟨Ao147, co147, eo147⟩ := Kd.V_slice HO729.out; subst eo147; obtain ⟨Ao148, co148, eo148⟩ := Kd.V_slice HO733.out; subst eo148) | ((with_reducible refine gC 15 ?_); refine gL 29 Try.func15 #[.agg #[.string t725, .string t726, .slice Ao147 t727.length co147, .int .i64 t730, .slice Ao148 t731.length co148]] ?_; (with_reducible refine (Fa.calls k t725 t726 _ _ t727 t730 _ _ t731 false _ ?side1 ?side2 ?side3 ?side4 A6.out).mono ?_); (case side1 => exact (Kd.V_reads' (pV HO729.out)).2.2); (case side2 => exact (Kd.V_reads' HO729.out).2.1); (case side3 => exact (Kd.V_reads' (pV HO733.out)).2.2); (case side4 => exact (Kd.V_reads' HO733.out).2.1); rintro e w149 ⟨rfl, hb⟩; refine ⟨_, rfl, ?_⟩; replace HO729 := vB HO729 hb; replace HO733 := vB HO733 hb; replace BK724 := am (blk_below (g := gb724) (o := .cells #[.string t725, .string t726, .slice Ao147 t727.length co147, .int .i64 t730, .slice Ao148 t731.length co148] 27 (0, 0)) (pP BK724.out) hb); replace HB := bS HB hb; (try clear hb); (try clear hb2); (try clear hk); (try clear hi)) | ((with_reducible refine gC 16 ?_); refine gL 31 Try.func16 #[] ?_; (with_reducible refine (Fv.calls k  t735 _ A142.out).mono ?_); rintro e w150 ⟨rfl, hb⟩; refine ⟨_, rfl, ?_⟩; replace HO729 := vB HO729 hb; replace HO733 := vB HO733 hb; replace BK724 := kB BK724 hb; replace HB := bS HB hb; (try clear hb); (try clear hb2); (try clear hk); (try clear hi)))
 go_ret
 exact ⟨er, pB HB.out⟩
end Go.Proofs.Ytabmkighhmchmaa.X
namespace Go.Proofs.Ytabmkighhmchmaa.X
open Go.RowKit Go.Proofs.YtabmkighhmchmaaW.PrintWords
def Fg.Pure : Prop := ∀ (x0 : S27) (a1 : Int) (a2 : Int) (a3 : Int), (x0.f0.size ≤ maxLen ∧ ((x0.f1.f0.size ≤ maxLen ∧ (x0.f1.f1.length ≤ maxLen ∧ ∀ a_ ∈ x0.f1.f1, ((a_.f0.length ≤ maxLen ∧ ∀ b_ ∈ a_.f0, (Lit.int .i64 b_).wf = true) ∧ (Lit.int .i64 a_.f1).wf = true ∧ (Lit.int .i64 a_.f2).wf = true ∧ (Lit.int .i64 a_.f3).wf = true)))) ∧ (Lit.int .i64 x0.f2).wf = true ∧ (x0.f3.length ≤ maxLen ∧ ∀ a_ ∈ x0.f3, ((Lit.int .i64 a_.f0).wf = true ∧ (Lit.int .i64 a_.f1).wf = true ∧ (Lit.int .i64 a_.f2).wf = true ∧ (Lit.int .i64 a_.f3).wf = true ∧ a_.f4.size ≤ maxLen))) → (Lit.int .i64 a1).wf = true → (Lit.int .i64 a2).wf = true → (Lit.int .i64 a3).wf = true → ∃ k, Fg.f k x0.f0 x0.f1.f0 x0.f1.f1 x0.f2 x0.f3 a1 a2 a3 = some true
end Go.Proofs.Ytabmkighhmchmaa.X
namespace Go.Proofs.Ytabmkighhmchmaa.X
open Go.RowKit Go.Proofs.YtabmkighhmchmaaW.PrintWords Go.Proofs.YtabmkighhmchmaaW.PrintLast Go.Proofs.YtabmkighhmchmaaW.PrintMore Go.Proofs.YtabmkighhmchmaaW.Sq
attribute [local go_sem] max2_int min2_int max_two min_two max_three min_three max_four min_four
set_option linter.unusedVariables false
set_option linter.unusedSimpArgs false
end Go.Proofs.Ytabmkighhmchmaa.X
namespace Go.Proofs.Ytabmkighhmchmaa.Pure
open Go.RowKit Go.Proofs.Ytabmkighhmchmaa.X Go.Proofs.YtabmkighhmchmaaW.PrintWords Go.Proofs.YtabmkighhmchmaaW.PrintLast
theorem rd51_nat (xs : List S51) (i : Nat) (h : i < xs.length) : rd_T51 xs (i : Int) = xs[i] := by
 simp [rd_T51, List.getD_eq_getElem?_getD, List.getElem?_eq_getElem h]
theorem rd49_nat (ts : List S49) (i : Nat) (h : i < ts.length) : rd_T49 ts (i : Int) = ts[i] := by
 simp [rd_T49, List.getD_eq_getElem?_getD, List.getElem?_eq_getElem h]
theorem wrap_nat (i : Nat) (h : i ≤ 1000000) : wrap64 ((i : Int) + 1) = ((i + 1 : Nat) : Int) := by unfold wrap64; omega
def hasB (c : Int) (xs : List S51) : Bool := xs.any fun s => decide (s.f0 = c)
theorem has_l0 (c : Int) (xs : List S51) (hl : xs.length ≤ 1000) : ∀ m i k : Nat, i + m = xs.length → m < k → Fe.l0 k c xs (xs.length : Int) (i : Int) = some (hasB c (xs.drop i)) := by
 intro m
 induction m with
 | zero =>
  intro i k hi hk
  obtain ⟨k, rfl⟩ : ∃ q, k = q + 1 := ⟨k - 1, by omega⟩
  rw [Fe.l0, if_neg (by omega), List.drop_eq_nil_of_le (by omega)]
  rfl
 | succ m ih =>
  intro i k hi hk
  obtain ⟨k, rfl⟩ : ∃ q, k = q + 1 := ⟨k - 1, by omega⟩
  rw [Fe.l0, if_pos (by omega), if_pos (by omega), if_pos (by omega), rd51_nat xs i (by omega), List.drop_eq_getElem_cons (show i < xs.length by omega)]
  unfold hasB
  rw [List.any_cons]
  by_cases h : xs[i].f0 = c
  ·
   rw [if_pos h, decide_eq_true h, Bool.true_or]
  rw [if_neg h, decide_eq_false h, Bool.false_or, wrap_nat i (by omega), ih (i + 1) k (by omega) (by omega)]
  rfl
theorem has_f (k : Nat) (ky nm : ByteArray) (ts : List S49) (is : Int) (xs : List S51) (c : Int) (hl : xs.length ≤ 1000) (hk : xs.length < k) : Fe.f k ky nm ts is xs c = some (hasB c xs) := by
 have h := has_l0 c xs hl xs.length 0 k (by omega) hk
 rw [List.drop_zero] at h
 exact h
def readyB (ts : List S49) (xs : List S51) (i : Nat) : Bool := (rd_T49 ts (i : Int)).f0.all fun x => decide ((rd_T51 xs x).f0 = 3)
def Wf (ts : List S49) (n : Nat) : Prop := ts.length = n ∧ n ≤ 10 ∧ ∀ i : Nat, i < n → (rd_T49 ts (i : Int)).f0.length ≤ 10 ∧ ∀ x ∈ (rd_T49 ts (i : Int)).f0, 0 ≤ x ∧ x < (n : Int)
theorem rdI_nat (l : List Int) (i : Nat) (h : i < l.length) : rd l (i : Int) = l[i] := by simp [rd, List.getD_eq_getElem?_getD, List.getElem?_eq_getElem h]
theorem isready_l0 (l : List Int) (ky nm : ByteArray) (ts : List S49) (is : Int) (xs : List S51) (hl : l.length ≤ 1000) (hx : ∀ x ∈ l, 0 ≤ x ∧ x < (xs.length : Int)) : ∀ m i k : Nat, i + m = l.length → m < k →
  Fk.l0 k l (l.length : Int) (i : Int) ky nm ts is xs = some ((l.drop i).all fun x => decide ((rd_T51 xs x).f0 = 3)) := by
 intro m
 induction m with
 | zero =>
  intro i k hi hk
  obtain ⟨k, rfl⟩ : ∃ q, k = q + 1 := ⟨k - 1, by omega⟩
  rw [Fk.l0, if_neg (by omega), List.drop_eq_nil_of_le (by omega)]
  rfl
 | succ m ih =>
  intro i k hi hk
  obtain ⟨k, rfl⟩ : ∃ q, k = q + 1 := ⟨k - 1, by omega⟩
  have hb := hx l[i] (List.getElem_mem _)
  rw [Fk.l0, if_pos (by omega), if_pos (by omega), if_pos (by omega), rdI_nat l i (by omega), if_pos hb.1, if_pos hb.2, List.drop_eq_getElem_cons (show i < l.length by omega), List.all_cons]
  by_cases h : (rd_T51 xs l[i]).f0 = 3
  ·
   rw [if_pos h, decide_eq_true h, Bool.true_and, wrap_nat i (by omega), ih (i + 1) k (by omega) (by omega)]
  rw [if_neg h, decide_eq_false h, Bool.false_and]
theorem isready_f (k : Nat) (ky nm : ByteArray) (ts : List S49) (is : Int) (xs : List S51) (h : Wf ts xs.length) (i : Nat) (hi : i < xs.length) (hk : 20 ≤ k) : Fk.f k ky nm ts is xs (i : Int) = some (readyB ts xs i) := by
 obtain ⟨h1, h2, h3⟩ := h
 obtain ⟨h4, h5⟩ := h3 i hi
 unfold Fk.f
 rw [if_pos (by omega), if_pos (by omega)]
 have h6 := isready_l0 (rd_T49 ts (i : Int)).f0 ky nm ts is xs (by omega) h5 (rd_T49 ts (i : Int)).f0.length 0 k (by omega) (by omega)
 rw [List.drop_zero] at h6
 exact h6
theorem anyO_open (xs : List S51) : ∀ l : List Int, (∀ x ∈ l, 0 ≤ x ∧ x < (xs.length : Int)) → anyO (openO xs) l = some (!(l.all fun x => decide ((rd_T51 xs x).f0 = 3)))
 | [], _ => rfl
 | x :: l, h => by
  have hb := h x (List.mem_cons_self ..)
  rw [anyO, openO, if_pos hb, Option.bind_some, List.all_cons, anyO_open xs l (fun y hy => h y (List.mem_cons_of_mem _ hy))]
  by_cases e : (rd_T51 xs x).f0 = 3
  ·
   rw [decide_eq_true e, Bool.true_and, if_neg (by simp [e])]
  rw [decide_eq_false e, Bool.false_and, if_pos (by simpa using e)]
  rfl
theorem ready_o (ts : List S49) (xs : List S51) (h : Wf ts xs.length) (i : Nat) (hi : i < xs.length) : readyO ts xs (i : Int) = some (readyB ts xs i) := by
 obtain ⟨h1, h2, h3⟩ := h
 obtain ⟨h4, h5⟩ := h3 i hi
 unfold readyO
 rw [if_pos ⟨by omega, by omega⟩]
 unfold anyF
 rw [if_pos (by omega), anyO_open xs _ h5, Option.bind_some, Bool.not_not]
 rfl
end Go.Proofs.Ytabmkighhmchmaa.Pure
namespace Go.Proofs.Ytabmkighhmchmaa.X
open Go.RowKit Go.Proofs.YtabmkighhmchmaaW.PrintWords Go.Proofs.YtabmkighhmchmaaW.PrintLast Go.Proofs.YtabmkighhmchmaaW.PrintMore Go.Proofs.YtabmkighhmchmaaW.Sq
attribute [local go_sem] max2_int min2_int max_two min_two max_three min_three max_four min_four
set_option linter.unusedVariables false
set_option linter.unusedSimpArgs false
set_option linter.unusedSimpArgs false
end Go.Proofs.Ytabmkighhmchmaa.X
namespace Go.Proofs.Ytabmkighhmchmaa.Pure
open Go.RowKit Go.Proofs.Ytabmkighhmchmaa.X Go.Proofs.YtabmkighhmchmaaW.PrintWords Go.Proofs.YtabmkighhmchmaaW.PrintLast
def readyTo (ts : List S49) (xs : List S51) : Nat → List S51
 | 0 => xs
 | q + 1 => if readyB ts (readyTo ts xs q) q = true then (readyTo ts xs q).set q (readyS (rd_T51 xs (q : Int))) else readyTo ts xs q
theorem readyTo_len (ts : List S49) (xs : List S51) : ∀ q, (readyTo ts xs q).length = xs.length
 | 0 => rfl
 | q + 1 => by rw [readyTo]; split <;> simp [readyTo_len ts xs q]
theorem readyTo_at (ts : List S49) (xs : List S51) : ∀ (q j : Nat), q ≤ j → rd_T51 (readyTo ts xs q) (j : Int) = rd_T51 xs (j : Int)
 | 0, _, _ => rfl
 | q + 1, j, h => by
  have ih := readyTo_at ts xs q j (by omega)
  rw [readyTo]
  split
  ·
   rw [← ih]
   unfold rd_T51
   simp only [Int.toNat_natCast, List.getD_eq_getElem?_getD]
   rw [List.getElem?_set_ne (by omega)]
  exact ih
def allB (c : Int) (xs : List S51) : Bool := xs.all fun s => decide (s.f0 = c)
def mendP (ts : List S49) (is : Int) (xs : List S51) : Int × List S51 :=
 if hasB 4 xs = true then (2, xs.map cancelS) else (if allB 3 (readyTo ts xs xs.length) = true then 1 else is, readyTo ts xs xs.length)
theorem upto_snd (xs : List S51) : ∀ n, n ≤ xs.length → (upto xs n).map (·.2) = xs.take n
 | 0, _ => by simp [upto]
 | n + 1, h => by rw [upto_succ, List.map_append, upto_snd xs n (by omega), List.take_succ_eq_append_getElem (by omega)]; simp [rd51_nat xs n (by omega)]
theorem cnt_eq (ks : List Int) (xs : List S51) : cntI ks (upto xs xs.length) = ((xs.filter fun s => ks.contains s.f0).length : Int) := by
 unfold cntI
 rw [← List.length_map (f := (·.2)) , show (List.filter (fun x : Nat × S51 => ks.contains x.2.f0) (upto xs xs.length)).map (·.2) = List.filter (fun s : S51 => ks.contains s.f0) ((upto xs xs.length).map (·.2)) by rw [List.filter_map]; rfl, upto_snd xs _ (Nat.le_refl _), List.take_length]
theorem cnt_pos (c : Int) (xs : List S51) : 0 < cntI [c] (upto xs xs.length) ↔ hasB c xs = true := by
 rw [cnt_eq]
 unfold hasB
 rw [List.any_eq_true]
 constructor
 ·
  intro h
  obtain ⟨s, hs⟩ := List.exists_mem_of_length_pos (l := xs.filter fun s => [c].contains s.f0) (by omega)
  rw [List.mem_filter] at hs
  exact ⟨s, hs.1, by simpa using hs.2⟩
 rintro ⟨s, hs, h⟩
 have : s ∈ xs.filter fun s => [c].contains s.f0 := List.mem_filter.2 ⟨hs, by simpa using h⟩
 have := List.length_pos_of_mem this
 omega
theorem cnt_all (c : Int) (xs : List S51) : cntI [c] (upto xs xs.length) = (xs.length : Int) ↔ allB c xs = true := by
 rw [cnt_eq]
 unfold allB
 rw [List.all_eq_true]
 constructor
 ·
  intro h s hs
  have h2 : (xs.filter fun s => [c].contains s.f0).length = xs.length := by omega
  rw [List.length_filter_eq_length_iff] at h2
  simpa using h2 s hs
 intro h
 have h2 : (xs.filter fun s => [c].contains s.f0).length = xs.length := List.length_filter_eq_length_iff.2 (fun s hs => by simpa using h s hs)
 omega
theorem mendTo_eq (ts : List S49) (xs : List S51) (h : Wf ts xs.length) : ∀ q, q ≤ xs.length → mendTo ts xs q = some (readyTo ts xs q)
 | 0, _ => rfl
 | q + 1, hq => by
  rw [mendTo, mendTo_eq ts xs h q (by omega), Option.bind_some, ready_o ts (readyTo ts xs q) (by rw [readyTo_len]; exact h) q (by rw [readyTo_len]; omega), Option.bind_some, readyTo, readyTo_at ts xs q q (Nat.le_refl _)]
theorem mend_f (ts : List S49) (is : Int) (xs : List S51) (h : Wf ts xs.length) : mendF ts is xs = some (mendP ts is xs) := by
 unfold mendF mendP
 rw [if_pos (by have := h.2.1; omega)]
 by_cases h4 : hasB 4 xs = true
 ·
  rw [if_pos ((cnt_pos 4 xs).2 h4), if_pos h4]
 rw [if_neg (fun h' => h4 ((cnt_pos 4 xs).1 h')), if_neg h4, mendTo_eq ts xs h _ (Nat.le_refl _), Option.bind_some]
 by_cases h3 : allB 3 (readyTo ts xs xs.length) = true
 ·
  rw [if_pos ((cnt_all 3 _).2 h3), if_pos h3]
 rw [if_neg (fun h' => h3 ((cnt_all 3 _).1 h')), if_neg h3]
end Go.Proofs.Ytabmkighhmchmaa.Pure
namespace Go.Proofs.Ytabmkighhmchmaa.X
open Go.RowKit Go.Proofs.YtabmkighhmchmaaW.PrintWords Go.Proofs.YtabmkighhmchmaaW.PrintLast Go.Proofs.YtabmkighhmchmaaW.PrintMore Go.Proofs.YtabmkighhmchmaaW.Sq
attribute [local go_sem] max2_int min2_int max_two min_two max_three min_three max_four min_four
set_option linter.unusedVariables false
set_option linter.unusedSimpArgs false
set_option linter.unusedSimpArgs false
set_option linter.unusedSimpArgs false
set_option linter.unusedSimpArgs false
set_option linter.unusedSimpArgs false
set_option linter.unusedSimpArgs false
set_option linter.unusedSimpArgs false
set_option linter.unusedSimpArgs false
end Go.Proofs.Ytabmkighhmchmaa.X
namespace Go.Proofs.Ytabmkighhmchmaa.Pure
open Go.RowKit Go.Proofs.Ytabmkighhmchmaa.X Go.Proofs.YtabmkighhmchmaaW.PrintWords Go.Proofs.YtabmkighhmchmaaW.PrintLast
def aft (w n : Int) : Int := if w < 1 ∨ n < 1 then 0 else min (w * 2 ^ (n - 1).toNat) 1048576
theorem pow_pos' (n : Nat) : (1 : Int) ≤ 2 ^ n := by
 induction n with
 | zero => simp
 | succ n ih => rw [Int.pow_succ]; omega
theorem mul_ge {x : Int} {n : Nat} (h : 0 ≤ x) : x ≤ x * 2 ^ n := by
 have h1 := pow_pos' n
 have h2 := Int.mul_le_mul_of_nonneg_left h1 h
 omega
theorem mul_step (x : Int) (n : Nat) : x * 2 ^ (n + 1) = 2 * x * 2 ^ n := by
 rw [Int.pow_succ, Int.mul_comm 2 x, Int.mul_assoc, Int.mul_comm (2 ^ n) 2]
theorem min_step {x : Int} {n : Nat} (h : 0 ≤ x) : min (min x 1048576 * 2 ^ n) 1048576 = min (x * 2 ^ n) 1048576 := by
 by_cases hx : x ≤ 1048576
 ·
  rw [Int.min_eq_left (a := x) (b := 1048576) hx]
 rw [Int.min_eq_right (a := x) (b := 1048576) (by omega)]
 have h1 := mul_ge (x := 1048576) (n := n) (by omega)
 have h2 := mul_ge (x := x) (n := n) h
 omega
theorem after_l0 (e : Nat) : ∀ (k : Nat) (x0 x1 : Int), 1 ≤ x0 → x0 ≤ 1048576 → -9223372036854775808 ≤ x1 - 1 → x1 ≤ 9223372036854775807 → 1048576 ≤ x0 * 2 ^ e → e < k →
  Fs.l0 k x0 x1 = some (min (x0 * 2 ^ (x1 - 1).toNat) 1048576) := by
 induction e with
 | zero =>
  intro k x0 x1 h0 h1 h2 h3 he hk
  obtain ⟨k, rfl⟩ : ∃ m, k = m + 1 := ⟨k - 1, by omega⟩
  have hx : x0 = 1048576 := by simp at he; omega
  have hg := mul_ge (x := x0) (n := (x1 - 1).toNat) (by omega)
  simp only [Fs.l0]
  have hm : mn x0 1048576 = min (x0 * 2 ^ (x1 - 1).toNat) 1048576 := by unfold mn; split <;> omega
  by_cases hc : x1 > 1
  ·
   rw [if_pos hc, if_neg (by omega), hm]
  rw [if_neg hc, hm]
 | succ e ih =>
  intro k x0 x1 h0 h1 h2 h3 he hk
  obtain ⟨k, rfl⟩ : ∃ m, k = m + 1 := ⟨k - 1, by omega⟩
  simp only [Fs.l0]
  by_cases hc : x1 > 1
  ·
   rw [if_pos hc]
   by_cases hd : x0 < 1048576
   ·
    rw [if_pos hd]
    have e1 : wrap64 (x0 * 2) = 2 * x0 := by unfold wrap64; omega
    have e2 : wrap64 (x1 - 1) = x1 - 1 := by unfold wrap64; omega
    have e3 : (x1 - 1).toNat = (x1 - 1 - 1).toNat + 1 := by omega
    rw [e1, e2, e3, mul_step]
    by_cases hs : 2 * x0 ≤ 1048576
    ·
     exact ih k (2 * x0) (x1 - 1) (by omega) hs (by omega) (by omega) (by rw [← mul_step]; exact he) (by omega)
    have hg := mul_ge (x := 2 * x0) (n := (x1 - 1 - 1).toNat) (by omega)
    obtain ⟨k, rfl⟩ : ∃ m, k = m + 1 := ⟨k - 1, by omega⟩
    simp only [Fs.l0]
    have hm : mn (2 * x0) 1048576 = min (2 * x0 * 2 ^ (x1 - 1 - 1).toNat) 1048576 := by unfold mn; split <;> omega
    by_cases a0 : x1 - 1 > 1
    ·
     rw [if_pos a0, if_neg (by omega), hm]
    rw [if_neg a0, hm]
   rw [if_neg hd]
   have hg := mul_ge (x := x0) (n := (x1 - 1).toNat) (by omega)
   congr 1
   unfold mn; split <;> omega
  rw [if_neg hc]
  have e3 : (x1 - 1).toNat = 0 := by omega
  rw [e3]
  congr 1
  simp
  unfold mn; split <;> omega
theorem after_f (k : Nat) (w n : Int) (hn : -9223372036854775808 ≤ n) (a1 : n ≤ 9223372036854775807) (hk : 24 ≤ k) : Fs.f k w n = some (aft w n) := by
 obtain ⟨k, rfl⟩ : ∃ m, k = m + 1 := ⟨k - 1, by omega⟩
 unfold Fs.f aft
 by_cases hw : w < 1
 ·
  rw [if_pos hw, if_pos (.inl hw)]; simp [Fs.j0]
 rw [if_neg hw]
 by_cases a0 : n < 1
 ·
  rw [if_pos (.inr a0), decide_eq_true a0]; simp [Fs.j0]
 rw [if_neg (by omega), decide_eq_false a0]
 simp only [Fs.j0]
 rw [if_neg (by simp)]
 have hm : mn w 1048576 = min w 1048576 := by unfold mn; split <;> omega
 rw [hm, ← min_step (by omega)]
 exact after_l0 20 k _ n (by omega) (by omega) (by omega) a1 (have : 1 ≤ min w 1048576 := (by omega); by omega) (by omega)
theorem wf64 {a : Int} (h : (Lit.int .i64 a).wf = true) : -9223372036854775808 ≤ a ∧ a ≤ 9223372036854775807 := by
 simp only [Lit.wf, Bool.and_eq_true, decide_eq_true_eq] at h
 have h1 : IntKind.i64.min = -9223372036854775808 := by decide
 have h2 : IntKind.i64.max = 9223372036854775807 := by decide
 rw [h1, h2] at h
 exact h
def cnt (p : Int) : Int := min (max p 0) 1099511627776
def csum (l : List Int) : Int := (l.map cnt).sum
theorem cnt_bd (p : Int) : 0 ≤ cnt p ∧ cnt p ≤ 1099511627776 := by unfold cnt; omega
theorem csum_cons (p : Int) (l : List Int) : csum (p :: l) = cnt p + csum l := by simp [csum]
theorem csum_nonneg (l : List Int) : 0 ≤ csum l := by
 induction l with
 | nil => simp [csum]
 | cons p l ih => rw [csum_cons]; have := cnt_bd p; omega
theorem cnt_mn (p : Int) : mn (mx p 0) 1099511627776 = cnt p := by unfold mn mx cnt; split <;> split <;> omega
theorem mn_min (a b : Int) : mn a b = min a b := by unfold mn; split <;> omega
theorem rd_at {l : List Int} {i : Int} (h0 : 0 ≤ i) (h : i < l.length) : rd l i = l[i.toNat]'(by omega) := by
 unfold rd
 have : i.toNat < l.length := by omega
 simp [List.getD, this]
theorem until_l0 (xs : List Int) (hn : xs.length ≤ 17592186044416) (d : Nat) : ∀ (k : Nat) (s i : Int), 0 ≤ s → s ≤ 1099511627776 → 0 ≤ i → i ≤ xs.length → (xs.length : Int) - i = d → d < k →
  Fm.l0 k s xs (xs.length : Int) i = some (min (s + csum (xs.drop i.toNat)) 1099511627776) := by
 induction d with
 | zero =>
  intro k s i h0 h1 h2 h3 hd hk
  obtain ⟨k, rfl⟩ : ∃ m, k = m + 1 := ⟨k - 1, by omega⟩
  simp only [Fm.l0]
  rw [if_neg (by omega), List.drop_of_length_le (by omega)]
  simp [csum]
  omega
 | succ d ih =>
  intro k s i h0 h1 h2 h3 hd hk
  obtain ⟨k, rfl⟩ : ∃ m, k = m + 1 := ⟨k - 1, by omega⟩
  simp only [Fm.l0]
  have hj : i.toNat < xs.length := by omega
  have hb := cnt_bd (xs[i.toNat])
  have e1 : wrap64 (i + 1) = i + 1 := by unfold wrap64; omega
  have e2 : wrap64 (s + cnt (xs[i.toNat])) = s + cnt (xs[i.toNat]) := by unfold wrap64; omega
  have hc := csum_nonneg (xs.drop (i.toNat + 1))
  rw [if_pos (by omega), if_pos h2, if_pos (by omega), cnt_mn, rd_at h2 (by omega), e1, e2, mn_min, ih k _ (i + 1) (by omega) (by omega) (by omega) (by omega) (by omega) (by omega)]
  rw [List.drop_eq_getElem_cons hj, csum_cons, show (i + 1).toNat = i.toNat + 1 from by omega]
  congr 1
  omega
theorem until_f (k : Nat) (a : Int) (l : List Int) (hl : l.length ≤ 40) (hk : 50 ≤ k) : Fm.f k a l = some (min (cnt a + csum l) 1099511627776) := by
 unfold Fm.f
 simp only [Option.bind_some]
 rw [if_pos (by simp; omega)]
 have := until_l0 ([a] ++ l) (by simp; omega) ([a] ++ l).length k 0 0 (by omega) (by omega) (by omega) (by omega) (by omega) (by simp; omega)
 rw [this]
 simp [csum_cons]
def unt (a : Int) (l : List Int) : Int := min (cnt a + csum l) 1099511627776
theorem unt_f (k : Nat) (a : Int) (l : List Int) (hl : l.length ≤ 40) (hk : 50 ≤ k) : Fm.f k a l = some (unt a l) := until_f k a l hl hk
theorem unt_bd (a : Int) (l : List Int) : 0 ≤ unt a l ∧ unt a l ≤ 1099511627776 := by
 have h1 := cnt_bd a
 have h2 := csum_nonneg l
 unfold unt
 omega
abbrev St := Int × Int × Int × Int × ByteArray
def noText : ByteArray := ⟨#[]⟩
def leaseV (a0 is a1 a2 : Int) (a3 : ByteArray) (now token : Int) : Int × Int × Int × Int × ByteArray × Int :=
 if token < 1 ∨ token > 1099511627776 then (0, 0, 0, 0, noText, 1)
 else if is = 1 ∧ a2 ≤ unt now [] then (2, wrap64 (a1 + 1), unt now [a0], token, a3, 0) else (0, 0, 0, 0, noText, 192)
theorem lease_f (k : Nat) (hk : 60 ≤ k) (l0 : List Int) (a2 a4 a0 is a1 a3 a6 : Int) (a5 : ByteArray) (now token : Int) :
  Fp.f k l0 a2 a4 a0 is a1 a3 a6 a5 now token = some (leaseV a0 is a1 a3 a5 now token) := by
 obtain ⟨k, rfl⟩ : ∃ m, k = m + 1 := ⟨k - 1, by omega⟩
 unfold Fp.f leaseV
 by_cases h1 : token < 1
 ·
  rw [if_pos h1, if_pos (.inl h1)]
  simp only [Fp.j0, if_true]
  rfl
 rw [if_neg h1]
 by_cases h2 : token > 1099511627776
 ·
  rw [decide_eq_true h2, if_pos (.inr h2)]
  simp only [Fp.j0, if_true]
  rfl
 rw [decide_eq_false h2, if_neg (by omega)]
 simp only [Fp.j0]
 rw [if_neg (by simp)]
 by_cases h3 : is = 1
 ·
  rw [if_pos h3, unt_f k now [] (by simp) (by omega)]
  simp only [Option.bind_some]
  by_cases h4 : a3 > unt now []
  ·
   rw [if_pos h4, if_neg (by omega)]
   rfl
  rw [if_neg h4, unt_f k now [a0] (by simp) (by omega), if_pos (by omega)]
  rfl
 rw [if_neg h3, if_neg (by omega)]
 rfl
def StandsP (is a0 a2 a1 : Int) (a3 : ByteArray) : Prop :=
 0 ≤ is ∧ is ≤ 5 ∧ 0 ≤ a0 ∧ a0 ≤ 8 ∧ 0 ≤ a2 ∧ a2 ≤ 1099511627776 ∧ 0 ≤ a1 ∧ a1 ≤ 1099511627776 ∧ (a1 > 0 ↔ is = 2) ∧ a3.size ≤ 16 ∧ (a3.data.toList = [] ∨ is = 3)
instance (is a0 a2 a1 : Int) (a3 : ByteArray) : Decidable (StandsP is a0 a2 a1 a3) := by unfold StandsP; infer_instance
def RightP (a1 is a0 a2 a4 : Int) (a3 : ByteArray) : Prop :=
 StandsP is a0 a2 a4 a3 ∧ a0 ≤ a1 ∧ (is = 0 → a0 = 0 ∧ a2 = 0) ∧ (is = 1 → a0 < a1) ∧ (is = 2 ∨ is = 3 → 1 ≤ a0) ∧ (is = 4 → a0 = a1) ∧ (a2 = 0 ∨ is = 1 ∨ is = 2)
instance (a1 is a0 a2 a4 : Int) (a3 : ByteArray) : Decidable (RightP a1 is a0 a2 a4 a3) := by unfold RightP; infer_instance
theorem ofNot {p : Prop} [Decidable p] (h : ¬ p) : some false = some (decide p) := by rw [decide_eq_false h]
theorem ofYes {p : Prop} [Decidable p] (h : p) : some true = some (decide p) := by rw [decide_eq_true h]
theorem ofIff {b : Bool} {p : Prop} [Decidable p] (h : b = true ↔ p) : some b = some (decide p) := by
 congr 1
 by_cases hp : p
 ·
  rw [decide_eq_true hp, h.2 hp]
 rw [decide_eq_false hp]
 exact Bool.eq_false_iff.2 (fun e => hp (h.1 e))
theorem stands_f (k : Nat) (hk : 1 ≤ k) (is a0 a2 a1 : Int) (a4 : ByteArray) : Ft.f k is a0 a2 a1 a4 = some (decide (StandsP is a0 a2 a1 a4)) := by
 obtain ⟨k, rfl⟩ : ∃ m, k = m + 1 := ⟨k - 1, by omega⟩
 unfold Ft.f
 by_cases h1 : is < 0
 ·
  rw [if_pos h1]; simp only [Ft.j0, if_true]; exact ofNot (by unfold StandsP; omega)
 rw [if_neg h1]
 by_cases h2 : is > 5
 ·
  rw [if_pos h2]; simp only [Ft.j0, if_true]; exact ofNot (by unfold StandsP; omega)
 rw [if_neg h2]
 by_cases h3 : a0 < 0
 ·
  rw [if_pos h3]; simp only [Ft.j0, if_true]; exact ofNot (by unfold StandsP; omega)
 rw [if_neg h3]
 by_cases h4 : a0 > 8
 ·
  rw [if_pos h4]; simp only [Ft.j0, if_true]; exact ofNot (by unfold StandsP; omega)
 rw [if_neg h4]
 by_cases h5 : a2 < 0
 ·
  rw [if_pos h5]; simp only [Ft.j0, if_true]; exact ofNot (by unfold StandsP; omega)
 rw [if_neg h5]
 simp only [Ft.j0]
 by_cases h6 : a2 > 1099511627776
 ·
  rw [if_pos (decide_eq_true h6)]; exact ofNot (by unfold StandsP; omega)
 rw [if_neg (by simpa using h6)]
 by_cases h7 : a1 < 0
 ·
  rw [if_pos h7]; exact ofNot (by unfold StandsP; omega)
 rw [if_neg h7]
 by_cases h8 : a1 > 1099511627776
 ·
  rw [if_pos h8]; exact ofNot (by unfold StandsP; omega)
 rw [if_neg h8]
 by_cases h9 : a1 > 0 ↔ is = 2
 ·
  have e9 : ¬ ((decide (a1 > 0) != (is == 2)) = true) := by
   by_cases a : a1 > 0 <;> by_cases b : is = 2 <;> simp [a, b] <;> omega
  rw [if_neg e9]
  by_cases a5 : (a4.size : Int) ≤ 16
  ·
   rw [if_pos a5]
   by_cases a3 : a4.data.toList = []
   ·
    rw [if_pos (by rw [Go.Lib.toList_data]; exact a3)]
    exact ofYes ⟨by omega, by omega, by omega, by omega, by omega, by omega, by omega, by omega, h9, by omega, .inl a3⟩
   rw [if_neg (by rw [Go.Lib.toList_data]; exact a3)]
   exact ofIff ⟨fun e => ⟨by omega, by omega, by omega, by omega, by omega, by omega, by omega, by omega, h9, by omega, .inr (by simpa using e)⟩, fun e => by
    obtain ⟨_, _, _, _, _, _, _, _, _, _, e⟩ := e
    rcases e with e | e
    ·
     exact absurd e a3
    simpa using e⟩
  rw [if_neg a5]; exact ofNot (by unfold StandsP; omega)
 have e9 : ((decide (a1 > 0) != (is == 2)) = true) := by
  by_cases a : a1 > 0 <;> by_cases b : is = 2 <;> simp [a, b] <;> omega
 rw [if_pos e9]; exact ofNot (by unfold StandsP; omega)
theorem right_f (k : Nat) (hk : 2 ≤ k) (l0 : List Int) (a1 a6 a2 is a0 a4 a5 : Int) (a3 : ByteArray) :
  Fy.f k l0 a1 a6 a2 is a0 a4 a5 a3 = some (decide (RightP a1 is a0 a4 a5 a3)) := by
 obtain ⟨k, rfl⟩ : ∃ m, k = m + 1 := ⟨k - 1, by omega⟩
 unfold Fy.f
 rw [stands_f (k + 1) (by omega)]
 simp only [Option.bind_some]
 by_cases hs : StandsP is a0 a4 a5 a3
 ·
  rw [if_pos (decide_eq_true hs)]
  simp only [Fy.j0]
  by_cases h1 : a0 > a1
  ·
   rw [if_pos (decide_eq_true h1)]; exact ofNot (by unfold RightP; omega)
  rw [if_neg (by simpa using h1)]
  have a7 := hs
  unfold StandsP at a7
  by_cases i0 : is = 0
  ·
   rw [if_pos i0]
   refine ofIff ?_
   have hr : a3.data.toList = [] := by
    rcases a7.2.2.2.2.2.2.2.2.2.2 with h | h
    ·
     exact h
    omega
   simp only [Go.Lib.toList_data, hr, Bool.and_eq_true, beq_iff_eq]
   unfold RightP
   constructor
   ·
    intro h; exact ⟨hs, by omega, by omega, by omega, by omega, by omega, by omega⟩
   intro h; exact ⟨i0, by omega, by omega, by omega, trivial⟩
  rw [if_neg i0]
  by_cases i1 : is = 1
  ·
   rw [if_pos i1]; exact ofIff (by unfold RightP; simp only [decide_eq_true_eq]; exact ⟨fun h => ⟨hs, by omega, by omega, by omega, by omega, by omega, by omega⟩, fun h => by omega⟩)
  rw [if_neg i1]
  by_cases i2 : is = 2
  ·
   rw [if_pos i2]; exact ofIff (by unfold RightP; simp only [decide_eq_true_eq]; exact ⟨fun h => ⟨hs, by omega, by omega, by omega, by omega, by omega, by omega⟩, fun h => by omega⟩)
  rw [if_neg i2]
  by_cases i4 : is = 4
  ·
   rw [if_pos i4]
   by_cases e : a0 = a1
   ·
    rw [if_pos e]; exact ofIff (by unfold RightP; simp only [beq_iff_eq]; exact ⟨fun h => ⟨hs, by omega, by omega, by omega, by omega, by omega, by omega⟩, fun h => by omega⟩)
   rw [if_neg e]; exact ofNot (by unfold RightP; omega)
  rw [if_neg i4]
  by_cases i5 : is = 5
  ·
   rw [if_pos i5]; exact ofIff (by unfold RightP; simp only [beq_iff_eq]; exact ⟨fun h => ⟨hs, by omega, by omega, by omega, by omega, by omega, by omega⟩, fun h => by omega⟩)
  rw [if_neg i5]
  by_cases e : a0 ≥ 1
  ·
   rw [if_pos e]; exact ofIff (by unfold RightP; simp only [beq_iff_eq]; exact ⟨fun h => ⟨hs, by omega, by omega, by omega, by omega, by omega, by omega⟩, fun h => by omega⟩)
  rw [if_neg e]; exact ofNot (by unfold RightP; omega)
 rw [if_neg (by simpa using hs)]
 simp only [Fy.j0, if_true]
 exact ofNot (fun h => hs h.1)
theorem ref_stands_f (k : Nat) (hk : 1 ≤ k) (is a0 a2 a1 : Int) (a3 : ByteArray) : Ff.f k is a0 a2 a1 a3 = some (decide (StandsP is a0 a2 a1 a3)) := by
 obtain ⟨k, rfl⟩ : ∃ m, k = m + 1 := ⟨k - 1, by omega⟩
 unfold Ff.f
 by_cases h1 : is < 0
 ·
  rw [if_pos h1]; simp only [Ff.j0, if_true]; exact ofNot (by unfold StandsP; omega)
 rw [if_neg h1]
 by_cases h2 : is > 5
 ·
  rw [if_pos h2]; simp only [Ff.j0, if_true]; exact ofNot (by unfold StandsP; omega)
 rw [if_neg h2]
 by_cases h3 : a0 < 0
 ·
  rw [if_pos h3]; simp only [Ff.j0, if_true]; exact ofNot (by unfold StandsP; omega)
 rw [if_neg h3]
 by_cases h4 : a0 > 8
 ·
  rw [if_pos h4]; simp only [Ff.j0, if_true]; exact ofNot (by unfold StandsP; omega)
 rw [if_neg h4]
 by_cases h5 : a2 < 0
 ·
  rw [if_pos h5]; simp only [Ff.j0, if_true]; exact ofNot (by unfold StandsP; omega)
 rw [if_neg h5]
 by_cases h6 : a2 > 1099511627776
 ·
  rw [if_pos h6]; simp only [Ff.j0, if_true]; exact ofNot (by unfold StandsP; omega)
 rw [if_neg h6]
 by_cases h7 : a1 > 1099511627776
 ·
  rw [if_pos h7]; simp only [Ff.j0, if_true]; exact ofNot (by unfold StandsP; omega)
 rw [if_neg h7]
 simp only [Ff.j0]
 by_cases h8 : (a3.size : Int) > 16
 ·
  rw [if_pos (decide_eq_true h8)]; exact ofNot (by unfold StandsP; omega)
 rw [if_neg (by simpa using h8)]
 by_cases i2 : is = 2
 ·
  rw [if_pos i2]
  by_cases h9 : a1 < 1
  ·
   rw [if_pos h9]; exact ofNot (by unfold StandsP; omega)
  rw [if_neg h9, if_neg (by omega)]
  refine ofIff ?_
  simp only [Go.Lib.toList_data, beq_iff_eq]
  constructor
  ·
   intro h; exact ⟨by omega, by omega, by omega, by omega, by omega, by omega, by omega, by omega, by omega, by omega, .inl h⟩
  rintro ⟨_, _, _, _, _, _, _, _, _, _, h | h⟩
  ·
   exact h
  omega
 rw [if_neg i2]
 by_cases h9 : a1 = 0
 ·
  rw [if_pos h9]
  by_cases i3 : is = 3
  ·
   rw [if_pos i3]
   exact ofYes ⟨by omega, by omega, by omega, by omega, by omega, by omega, by omega, by omega, by omega, by omega, .inr i3⟩
  rw [if_neg i3]
  refine ofIff ?_
  simp only [Go.Lib.toList_data, beq_iff_eq]
  constructor
  ·
   intro h; exact ⟨by omega, by omega, by omega, by omega, by omega, by omega, by omega, by omega, by omega, by omega, .inl h⟩
  rintro ⟨_, _, _, _, _, _, _, _, _, _, h | h⟩
  ·
   exact h
  omega
 rw [if_neg h9]; exact ofNot (by unfold StandsP; omega)
theorem ref_right_f (k : Nat) (hk : 5 ≤ k) (l0 : List Int) (a1 a8 a4 is a0 a2 a6 : Int) (a5 : ByteArray) :
  Fc.f k l0 a1 a8 a4 is a0 a2 a6 a5 = some (decide (RightP a1 is a0 a2 a6 a5)) := by
 obtain ⟨k, rfl⟩ : ∃ m, k = m + 4 := ⟨k - 4, by omega⟩
 unfold Fc.f
 rw [ref_stands_f (k + 4) (by omega)]
 simp only [Option.bind_some]
 by_cases hs : StandsP is a0 a2 a6 a5
 ·
  rw [if_pos (decide_eq_true hs)]
  simp only [Fc.j0]
  by_cases h1 : a0 > a1
  ·
   rw [if_pos (decide_eq_true h1)]; exact ofNot (by unfold RightP; omega)
  rw [if_neg (by simpa using h1)]
  have a9 := hs
  unfold StandsP at a9
  by_cases i0 : is = 0
  ·
   rw [if_pos i0]
   by_cases t0 : a0 = 0
   ·
    rw [if_pos t0]
    simp only [Fc.j1]
    by_cases d0 : a2 = 0
    ·
     rw [if_neg (by simpa using d0), if_neg (by omega)]
     simp only [Fc.j2]
     rw [if_neg (by simp), if_neg (by omega), if_neg (by omega)]
     simp only [Fc.j3]
     rw [if_neg (by simp), if_neg (by omega), if_pos d0]
     exact ofYes (by unfold RightP; exact ⟨hs, by omega, by omega, by omega, by omega, by omega, by omega⟩)
    rw [if_pos (by simpa using d0)]; exact ofNot (by unfold RightP; omega)
   rw [if_neg t0]
   simp only [Fc.j1, if_true]
   exact ofNot (by unfold RightP; omega)
  rw [if_neg i0]
  simp only [Fc.j1]
  rw [if_neg (by simp)]
  by_cases i1 : is = 1
  ·
   rw [if_pos i1]
   simp only [Fc.j2]
   by_cases h2 : a0 ≥ a1
   ·
    rw [if_pos (decide_eq_true h2)]; exact ofNot (by unfold RightP; omega)
   rw [if_neg (by simpa using h2), if_neg (by omega), if_neg (by omega)]
   simp only [Fc.j3]
   rw [if_neg (by simp), if_neg (by omega)]
   have a7 : RightP a1 is a0 a2 a6 a5 := by unfold RightP; exact ⟨hs, by omega, by omega, by omega, by omega, by omega, by omega⟩
   by_cases d0 : a2 = 0
   ·
    rw [if_pos d0]; exact ofYes a7
   rw [if_neg d0, if_pos i1]; exact ofYes a7
  rw [if_neg i1]
  simp only [Fc.j2]
  rw [if_neg (by simp)]
  by_cases i2 : is = 2
  ·
   rw [if_pos i2]
   simp only [Fc.j3]
   by_cases h2 : a0 < 1
   ·
    rw [if_pos (decide_eq_true h2)]; exact ofNot (by unfold RightP; omega)
   rw [if_neg (by simpa using h2), if_neg (by omega)]
   have a7 : RightP a1 is a0 a2 a6 a5 := by unfold RightP; exact ⟨hs, by omega, by omega, by omega, by omega, by omega, by omega⟩
   by_cases d0 : a2 = 0
   ·
    rw [if_pos d0]; exact ofYes a7
   rw [if_neg d0, if_neg i1]; exact ofIff ⟨fun _ => a7, fun _ => by simpa using i2⟩
  rw [if_neg i2]
  have a3 : (if a2 = 0 then some true else if is = 1 then some true else some (is == 2)) = some (decide (a2 = 0)) := by
   by_cases d0 : a2 = 0
   ·
    rw [if_pos d0]; exact ofYes d0
   rw [if_neg d0, if_neg i1]; exact ofIff ⟨fun h => absurd (by simpa using h) i2, fun h => absurd h d0⟩
  by_cases i3 : is = 3
  ·
   rw [if_pos i3]
   simp only [Fc.j3]
   by_cases h2 : a0 < 1
   ·
    rw [if_pos (decide_eq_true h2)]; exact ofNot (by unfold RightP; omega)
   rw [if_neg (by simpa using h2), if_neg (by omega), a3]
   exact ofIff (by simp only [decide_eq_true_eq]; unfold RightP; exact ⟨fun h => ⟨hs, by omega, by omega, by omega, by omega, by omega, by omega⟩, fun h => by omega⟩)
  rw [if_neg i3]
  simp only [Fc.j3]
  rw [if_neg (by simp)]
  by_cases i4 : is = 4
  ·
   rw [if_pos i4]
   by_cases e : a0 = a1
   ·
    rw [if_pos e, a3]
    exact ofIff (by simp only [decide_eq_true_eq]; unfold RightP; exact ⟨fun h => ⟨hs, by omega, by omega, by omega, by omega, by omega, by omega⟩, fun h => by omega⟩)
   rw [if_neg e]; exact ofNot (by unfold RightP; omega)
  rw [if_neg i4, a3]
  exact ofIff (by simp only [decide_eq_true_eq]; unfold RightP; exact ⟨fun h => ⟨hs, by omega, by omega, by omega, by omega, by omega, by omega⟩, fun h => by omega⟩)
 rw [if_neg (by simpa using hs)]
 simp only [Fc.j0, if_true]
 exact ofNot (fun h => hs h.1)
def failV (a1 a2 is a0 : Int) (a3 : ByteArray) (now : Int) : Int × Int × Int × Int × ByteArray × Int :=
 if is = 2 then (if a0 ≥ a1 then (4, a0, 0, 0, a3, 0) else (1, a0, unt now [aft a2 a0], 0, a3, 0)) else (0, 0, 0, 0, noText, 191)
theorem fail_f (k : Nat) (hk : 60 ≤ k) (l0 : List Int) (a1 a2 a3 is a0 a5 a6 : Int) (a4 : ByteArray) (now : Int) (h1 : -9223372036854775808 ≤ a0) (h2 : a0 ≤ 9223372036854775807) :
  F1.f k l0 a1 a2 a3 is a0 a5 a6 a4 now = some (failV a1 a2 is a0 a4 now) := by
 unfold F1.f failV
 by_cases i2 : is = 2
 ·
  rw [if_pos i2, if_pos i2]
  by_cases h : a0 ≥ a1
  ·
   rw [if_pos h, if_pos h]
  rw [if_neg h, if_neg h, after_f k a2 a0 h1 h2 (by omega)]
  simp only [Option.bind_some]
  rw [unt_f k now _ (by simp) (by omega)]
  rfl
 rw [if_neg i2, if_neg i2]
 rfl
def expireV (a1 a4 is a0 a2 a5 : Int) (a3 : ByteArray) (now : Int) : St :=
 if is = 2 ∧ a2 ≤ unt now [] then (if a0 ≥ a1 then (4, a0, 0, 0, a3) else (1, a0, unt a2 [aft a4 a0], 0, a3)) else (is, a0, a2, a5, a3)
theorem expire_f (k : Nat) (hk : 60 ≤ k) (l0 : List Int) (a1 a3 a2 is a0 a4 a6 : Int) (a5 : ByteArray) (now : Int) (h1 : -9223372036854775808 ≤ a0) (h2 : a0 ≤ 9223372036854775807) :
  Fu.f k l0 a1 a3 a2 is a0 a4 a6 a5 now = some (expireV a1 a3 is a0 a4 a6 a5 now) := by
 unfold Fu.f expireV
 by_cases i2 : is = 2
 ·
  rw [if_pos i2, unt_f k now [] (by simp) (by omega)]
  simp only [Option.bind_some]
  by_cases h : a4 > unt now []
  ·
   rw [if_pos h, if_neg (by omega)]
  rw [if_neg h, if_pos ⟨i2, by omega⟩, fail_f k hk l0 a1 a3 a2 is a0 a4 a6 a5 a4 h1 h2]
  unfold failV
  simp only [Option.bind_some]
  rw [if_pos i2]
  split <;> rfl
 rw [if_neg i2, if_neg (by omega)]
def doneV (is a1 : Int) (a0 : ByteArray) : Int × Int × Int × Int × ByteArray × Int :=
 if is = 2 then (if a0.size ≤ 16 then (3, a1, 0, 0, a0, 0) else (0, 0, 0, 0, noText, 1)) else (0, 0, 0, 0, noText, 191)
theorem done_f (l0 : List Int) (a3 a4 a2 is a1 a5 a7 : Int) (a6 a0 : ByteArray) :
  Gb.f l0 a3 a4 a2 is a1 a5 a7 a6 a0 = some (doneV is a1 a0) := by
 unfold Gb.f doneV
 by_cases i2 : is = 2
 ·
  rw [if_pos i2, if_pos i2]
  by_cases h : (a0.size : Int) > 16
  ·
   rw [if_pos h, if_neg (by omega)]
   rfl
  rw [if_neg h, if_pos (by omega)]
 rw [if_neg i2, if_neg i2]
 rfl
end Go.Proofs.Ytabmkighhmchmaa.Pure
namespace Go.Proofs.Ytabmkighhmchmaa.X
open Go.RowKit Go.Proofs.YtabmkighhmchmaaW.PrintWords Go.Proofs.YtabmkighhmchmaaW.PrintLast Go.Proofs.YtabmkighhmchmaaW.PrintMore Go.Proofs.YtabmkighhmchmaaW.Sq
attribute [local go_sem] max2_int min2_int max_two min_two max_three min_three max_four min_four
set_option linter.unusedVariables false
set_option linter.unusedSimpArgs false
end Go.Proofs.Ytabmkighhmchmaa.X
namespace Go.Proofs.Ytabmkighhmchmaa.Pure
open Go.RowKit Go.Proofs.Ytabmkighhmchmaa.X Go.Proofs.YtabmkighhmchmaaW.PrintWords Go.Proofs.YtabmkighhmchmaaW.PrintLast
end Go.Proofs.Ytabmkighhmchmaa.Pure
namespace Go.Proofs.Ytabmkighhmchmaa.X
open Go.RowKit Go.Proofs.YtabmkighhmchmaaW.PrintWords Go.Proofs.YtabmkighhmchmaaW.PrintLast Go.Proofs.YtabmkighhmchmaaW.PrintMore Go.Proofs.YtabmkighhmchmaaW.Sq
attribute [local go_sem] max2_int min2_int max_two min_two max_three min_three max_four min_four
set_option linter.unusedVariables false
set_option linter.unusedSimpArgs false
end Go.Proofs.Ytabmkighhmchmaa.X
namespace Go.Proofs.Ytabmkighhmchmaa.Pure
open Go.RowKit Go.Proofs.Ytabmkighhmchmaa.X Go.Proofs.YtabmkighhmchmaaW.PrintWords Go.Proofs.YtabmkighhmchmaaW.PrintLast
def ofV (p : Int × Int × Int × Int × ByteArray) : S51 := ⟨p.1, p.2.1, p.2.2.1, p.2.2.2.1, p.2.2.2.2⟩
def expS (t : S49) (s : S51) (now : Int) : S51 := ofV (expireV t.f1 t.f2 s.f0 s.f1 s.f2 s.f3 s.f4 now)
def Tr (xs : List S51) : Prop := ∀ s ∈ xs, -9223372036854775808 ≤ s.f1 ∧ s.f1 ≤ 9223372036854775807
theorem rd51_mem {xs : List S51} {i : Int} (h0 : 0 ≤ i) (h1 : i < (xs.length : Int)) : rd_T51 xs i ∈ xs := by
 obtain ⟨n, rfl⟩ := Int.eq_ofNat_of_zero_le h0
 rw [rd51_nat xs n (by omega)]
 exact List.getElem_mem _
theorem exp_o (k : Nat) (hk : 60 ≤ k) (t : S49) (s : S51) (now : Int) (h : -9223372036854775808 ≤ s.f1 ∧ s.f1 ≤ 9223372036854775807) : expireO k t s now = some (expS t s now) := by
 unfold expireO
 rw [expire_f k hk _ _ _ _ _ _ _ _ _ _ h.1 h.2, Option.bind_some]
 rfl
def stepS (ts : List S49) (now : Int) (p : Int × List S51) : Int × List S51 :=
 if 0 ≤ firstF (unt now []) p.2 (List.finRange p.2.length) then
  mendP ts p.1 (p.2.set (firstF (unt now []) p.2 (List.finRange p.2.length)).toNat (expS (rd_T49 ts (firstF (unt now []) p.2 (List.finRange p.2.length))) (rd_T51 p.2 (firstF (unt now []) p.2 (List.finRange p.2.length))) now))
 else p
def iterS (ts : List S49) (now : Int) : Nat → Int × List S51 → Int × List S51
 | 0, p => p
 | n + 1, p => iterS ts now n (stepS ts now p)
theorem mendP_len (ts : List S49) (is : Int) (xs : List S51) : (mendP ts is xs).2.length = xs.length := by
 unfold mendP
 split
 ·
  simp
 simp [readyTo_len]
theorem stepS_len (ts : List S49) (now : Int) (p : Int × List S51) : (stepS ts now p).2.length = p.2.length := by
 unfold stepS
 split
 ·
  rw [mendP_len, List.length_set]
 rfl
theorem cancelS_tr (s : S51) : (cancelS s).f1 = s.f1 := by unfold cancelS; split <;> rfl
theorem readyS_tr (s : S51) : (readyS s).f1 = s.f1 := by unfold readyS; split <;> rfl
theorem expS_tr (t : S49) (s : S51) (now : Int) : (expS t s now).f1 = s.f1 := by unfold expS ofV expireV; split <;> (try split) <;> rfl
theorem tr_set {xs : List S51} (h : Tr xs) (i : Nat) (s : S51) (hs : -9223372036854775808 ≤ s.f1 ∧ s.f1 ≤ 9223372036854775807) : Tr (xs.set i s) := by
 intro y hy
 rcases List.mem_or_eq_of_mem_set hy with hy | rfl
 ·
  exact h y hy
 exact hs
theorem tr_ready (ts : List S49) (xs : List S51) (h : Tr xs) : ∀ q, q ≤ xs.length → Tr (readyTo ts xs q)
 | 0, _ => h
 | q + 1, hq => by
  rw [readyTo]
  split
  ·
   exact tr_set (tr_ready ts xs h q (by omega)) _ _ (by rw [readyS_tr]; exact h _ (rd51_mem (by omega) (by omega)))
  exact tr_ready ts xs h q (by omega)
theorem tr_mend (ts : List S49) (is : Int) (xs : List S51) (h : Tr xs) : Tr (mendP ts is xs).2 := by
 unfold mendP
 split
 ·
  intro y hy
  obtain ⟨s, hs, rfl⟩ := List.mem_map.1 hy
  rw [cancelS_tr]
  exact h s hs
 exact tr_ready ts xs h _ (Nat.le_refl _)
theorem tr_step (ts : List S49) (now : Int) (p : Int × List S51) (h : Tr p.2) : Tr (stepS ts now p).2 := by
 unfold stepS
 split
 ·
  rename_i h0
  have h1 := (firstF_lt (unt now []) p.2 (List.finRange p.2.length)).2
  exact tr_mend _ _ _ (tr_set h _ _ (by rw [expS_tr]; exact h _ (rd51_mem h0 h1)))
 exact h
end Go.Proofs.Ytabmkighhmchmaa.Pure
