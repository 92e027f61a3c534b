/- The machine's side of a law, printed by a program of this session out of the translation; conditions: none. -/
import Derived.Test.YtgbjojokjekmhaaGreatDoorPXCx0
import Derived.Test.YtgbjojokjekmhaaGreatDoorPXCx1
import Derived.Test.YtgbjojokjekmhaaGreatDoorPXCx2
import Derived.Test.YtgbjojokjekmhaaGreatDoorPXCx3
import Derived.Test.YtgbjojokjekmhaaGreatDoorPXCx4
import Derived.Test.YtgbjojokjekmhaaGreatDoorPXCx5
import Derived.Test.YtgbjojokjekmhaaGreatDoorPXCx6
import Derived.Test.YtgbjojokjekmhaaGreatDoorPXCx7
import Derived.Test.YtgbjojokjekmhaaGreatDoorPXCx8D
import Derived.Test.YtgbjojokjekmhaaGreatDoorPXCx8
import Derived.Test.YtgbjojokjekmhaaGreatDoorPXCx9
import Derived.Test.YtgbjojokjekmhaaGreatDoorPXCx10
import Derived.Test.YtgbjojokjekmhaaGreatDoorPXCx11
import Derived.Test.YtgbjojokjekmhaaGreatDoorPXCx12
import Derived.Test.YtgbjojokjekmhaaGreatDoorPXCx13
import Derived.Test.YtgbjojokjekmhaaGreatDoorScanL
import Derived.Test.YtgbjojokjekmhaaGreatDoorPXDy
namespace Go.Proofs.YtgbjojokjekmhaaGreatDoor.PXE
open Go.Proofs.YtgbjojokjekmhaaGreatDoor Go.Proofs.YtgbjojokjekmhaaGreatDoor.PXC Go.Proofs.YtgbjojokjekmhaaGreatDoor.PXD
open Go.RowKit Go.Proofs.YtgbjojokjekmhaaGreatDoorW.PrintWords Go.Proofs.YtgbjojokjekmhaaGreatDoorW.PrintLast Go.Proofs.YtgbjojokjekmhaaGreatDoorW.PrintMore
attribute [local go_sem] max2_int min2_int max_two min_two max_three min_three max_four min_four   -- for this text's walks alone
set_option linter.unusedVariables false
set_option linter.unusedSimpArgs false


theorem phEy_1 {P : Prop} (h : P := by repeat (first | (with_reducible first | exact HB.out | apply below_alloc | apply pw_below_drewN | apply below_drew1 | refine below_set ?_ GE351.out) | exact HB.out)) : P := h
theorem phEy_2 {P : Prop} (h : P := by repeat (first | (with_reducible first | exact HB.out | apply below_alloc | apply pw_below_drewN | apply below_drew1) | exact HB.out)) : P := h
theorem phEy_3 {P : Prop} (h : P := by (with_reducible repeat (first | refine blk_drewN ?_ _ | refine blk_drew ?_ | refine blk_alloc ?_ _)); exact BK351.out) : P := h
theorem phEy_4 {P : Prop} (h : P := by (try simp only [List.map_toArray, List.map_cons, List.map_nil]); first | done | rfl | (simp only [List.length_drop, List.length_take]; rfl)) : P := h
theorem phEy_5 {P : Prop} (h : P := by first | rfl | (simp; done) | (simp [*]; done)) : P := h
theorem phEy_6 {P : Prop} (h : P := by (with_reducible repeat (first | apply Kd.R_alloc | apply Kd.R_drewN | apply Kd.R_drew)); exact HO371.out) : P := h
theorem phEy_8 {P : Prop} (h : P := by first | rfl | (simp [errW_none, errW_some] <;> rfl) | (simp only [append_nothing]; done) | (simp only [append_nothing]; rfl) | (simp [*, errW_none, errW_some] <;> rfl)) : P := h
theorem phEy_9 {P : Prop} (h : P := by first | (with_reducible assumption) | assumption) : P := h
theorem phEy_13 {P : Prop} (h : P := by first | (with_reducible exact HG) | exact ⟨GW.below HG.out (by repeat (first | (with_reducible first | exact HB.out | apply below_alloc | apply pw_below_drewN | apply below_drew1) | (with_reducible refine below_set ?_ (Aside0.out (by assumption))) | exact HB.out | exact Below.refl _ _))⟩ | exact ⟨GW.drewN HG.out _⟩ | exact ⟨GW.drew HG.out⟩ | exact ⟨GW.drewN (GW.drewN HG.out _) _⟩ | exact ⟨GW.drewN (GW.drew HG.out) _⟩) : P := h
/-! ### abacuslaw15_PointDigits: function 5 -/
mutual
def abacuslaw15_PointDigits.j0 : Nat → Int → Int → ByteArray → Int → Bool → Int → Int → Int → Int → Option (Bool)
  | 0, _, _, _, _, _, _, _, _, _ => none
  | k + 1, x1, x6, x7, x8, x40, x352000, x352001, x352002, x352003 => if x40 = true then (if x6 = 140 then (some (x8 == x6)) else (some true)) else (if x352003 = (-1) then (abacuslaw15_PointDigits.j1 k x1 x7 x8 6 x352000 x352001 x352002 x352003) else (abacuslaw15_PointDigits.j1 k x1 x7 x8 x352003 x352000 x352001 x352002 x352003))
def abacuslaw15_PointDigits.j1 : Nat → Int → ByteArray → Int → Int → Int → Int → Int → Int → Option (Bool)
  | 0, _, _, _, _, _, _, _, _ => none
  | k + 1, x1, x7, x8, x9, x352000, x352001, x352002, x352003 => if x352000 = 102 then (abacuslaw15_PointDigits.j2 k x1 x7 x8 x9 ((Go.bits .and .i64 x352001 8) != 0) true x352000 x352001 x352002 x352003) else (abacuslaw15_PointDigits.j2 k x1 x7 x8 x9 ((Go.bits .and .i64 x352001 8) != 0) (x352000 == 70) x352000 x352001 x352002 x352003)
def abacuslaw15_PointDigits.j2 : Nat → Int → ByteArray → Int → Int → Bool → Bool → Int → Int → Int → Int → Option (Bool)
  | 0, _, _, _, _, _, _, _, _, _, _ => none
  | k + 1, x1, x7, x8, x9, x10, x63, x352000, x352001, x352002, x352003 => if x63 = true then ((fixed_Places.f k x1 x9).bind fun bt361 => (if x8 = 0 then (if bt361.2.2 = 0 then ((abacuslaw15_joined.f bt361.1 bt361.2.1 x10).bind fun t364 => (some (x7.toList == t364.toList))) else (some false)) else (some false))) else (if x352000 = 101 then (abacuslaw15_PointDigits.j3 k x1 x7 x8 x9 x10 false x352000 x352001 x352002 x352003) else (abacuslaw15_PointDigits.j3 k x1 x7 x8 x9 x10 (x352000 != 69) x352000 x352001 x352002 x352003))
def abacuslaw15_PointDigits.j3 : Nat → Int → ByteArray → Int → Int → Bool → Bool → Int → Int → Int → Int → Option (Bool)
  | 0, _, _, _, _, _, _, _, _, _, _ => none
  | k + 1, x1, x7, x8, x9, x10, x92, x352000, x352001, x352002, x352003 => if x92 = true then (some (x8 == 0)) else ((fixed_Figures.f k x1 (wrap64 (x9 + 1))).bind fun bt365 => (if x8 = 0 then (if bt365.2.2 = 0 then (abacuslaw15_PointDigits.j4 k x7 x9 x10 bt365.1 bt365.2.1 ((bt365.1.size : Int) != (wrap64 (x9 + 1))) x352000 x352001 x352002 x352003) else (abacuslaw15_PointDigits.j4 k x7 x9 x10 bt365.1 bt365.2.1 true x352000 x352001 x352002 x352003)) else (abacuslaw15_PointDigits.j4 k x7 x9 x10 bt365.1 bt365.2.1 true x352000 x352001 x352002 x352003)))
def abacuslaw15_PointDigits.j4 : Nat → ByteArray → Int → Bool → ByteArray → Int → Bool → Int → Int → Int → Int → Option (Bool)
  | 0, _, _, _, _, _, _, _, _, _, _ => none
  | k + 1, x7, x9, x10, x14, x15, x115, x352000, x352001, x352002, x352003 => if x115 = true then (some false) else (if 0 ≤ 1 then (if 1 ≤ (x14.size : Int) then ((abacuslaw15_joined.f (x14.extract 0 1) (x14.extract 1 x14.size) x10).bind fun t368 => ((some (([x352000] : List Int) : List Int)).bind fun y369 => (if t368.size + (strOfNums y369).size ≤ 9223372036854775807 then ((abacuslaw15_places.f k x7).bind fun bt372 => (if bt372.1 = x9 then (if bt372.2 = x15 then (if (x7.size : Int) ≥ (wrap64 (((t368 ++ (strOfNums y369)).size : Int) + 3)) then (if 0 ≤ ((t368 ++ (strOfNums y369)).size : Int) then (if ((t368 ++ (strOfNums y369)).size : Int) ≤ (x7.size : Int) then (if (x7.extract 0 (((t368 ++ (strOfNums y369)).size : Int) : Int).toNat).toList = (t368 ++ (strOfNums y369)).toList then (if ((t368 ++ (strOfNums y369)).size : Int) < (x7.size : Int) then (some (((bt x7 ((t368 ++ (strOfNums y369)).size : Int)) == 43) == (decide (x15 ≥ 0)))) else (none)) else (some false)) else (none)) else (none)) else (some false)) else (some false)) else (some false))) else (none)))) else (none)) else (none))
end
def abacuslaw15_PointDigits.f (k : Nat) (a0_0 : Int) (a0_1 : Int) (a0_2 : Int) (a0_3 : Int) (a1 : Int) : Option (Bool) := (abacuslaw15_awake.f k).bind fun t352 => (if t352 = true then ((abacuslaw15_wrong.f k a0_0 a0_1 a0_2 a0_3).bind fun t353 => ((abacuslaw15_bare.f a0_0 a0_1 a0_2 a0_3).bind fun bt354 => ((point_Render.f k bt354.1 bt354.2.1 bt354.2.2.1 bt354.2.2.2 (Int.tmod a1 9223372036854775808)).bind fun bt358 => (if t353 = 0 then ((abacuslaw15_finite.f (Int.tmod a1 9223372036854775808)).bind fun t360 => (abacuslaw15_PointDigits.j0 k (Int.tmod a1 9223372036854775808) t353 bt358.1 bt358.2 (!t360) a0_0 a0_1 a0_2 a0_3)) else (abacuslaw15_PointDigits.j0 k (Int.tmod a1 9223372036854775808) t353 bt358.1 bt358.2 true a0_0 a0_1 a0_2 a0_3))))) else (some false))
theorem abacuslaw15_PointDigits.mono_l : ∀ k, (∀ y0 y1 y2 y3 y4 y5 y6 y7 y8, LeO (abacuslaw15_PointDigits.j0 k y0 y1 y2 y3 y4 y5 y6 y7 y8) (abacuslaw15_PointDigits.j0 (k + 1) y0 y1 y2 y3 y4 y5 y6 y7 y8)) ∧ (∀ y0 y1 y2 y3 y4 y5 y6 y7, LeO (abacuslaw15_PointDigits.j1 k y0 y1 y2 y3 y4 y5 y6 y7) (abacuslaw15_PointDigits.j1 (k + 1) y0 y1 y2 y3 y4 y5 y6 y7)) ∧ (∀ y0 y1 y2 y3 y4 y5 y6 y7 y8 y9, LeO (abacuslaw15_PointDigits.j2 k y0 y1 y2 y3 y4 y5 y6 y7 y8 y9) (abacuslaw15_PointDigits.j2 (k + 1) y0 y1 y2 y3 y4 y5 y6 y7 y8 y9)) ∧ (∀ y0 y1 y2 y3 y4 y5 y6 y7 y8 y9, LeO (abacuslaw15_PointDigits.j3 k y0 y1 y2 y3 y4 y5 y6 y7 y8 y9) (abacuslaw15_PointDigits.j3 (k + 1) y0 y1 y2 y3 y4 y5 y6 y7 y8 y9)) ∧ (∀ y0 y1 y2 y3 y4 y5 y6 y7 y8 y9, LeO (abacuslaw15_PointDigits.j4 k y0 y1 y2 y3 y4 y5 y6 y7 y8 y9) (abacuslaw15_PointDigits.j4 (k + 1) y0 y1 y2 y3 y4 y5 y6 y7 y8 y9))
  | 0 => ⟨fun _ _ _ _ _ _ _ _ _ r h => by simp [abacuslaw15_PointDigits.j0] at h, fun _ _ _ _ _ _ _ _ r h => by simp [abacuslaw15_PointDigits.j1] at h, fun _ _ _ _ _ _ _ _ _ _ r h => by simp [abacuslaw15_PointDigits.j2] at h, fun _ _ _ _ _ _ _ _ _ _ r h => by simp [abacuslaw15_PointDigits.j3] at h, fun _ _ _ _ _ _ _ _ _ _ r h => by simp [abacuslaw15_PointDigits.j4] at h⟩
  | k + 1 => by
    obtain ⟨ih0, ih1, ih2, ih3, ih4⟩ := abacuslaw15_PointDigits.mono_l k
    refine ⟨?_, ?_, ?_, ?_, ?_⟩
    · intro y0 y1 y2 y3 y4 y5 y6 y7 y8
      unfold abacuslaw15_PointDigits.j0
      repeat' first
      | (with_reducible exact ih0 _ _ _ _ _ _ _ _ _)
      | (with_reducible exact ih1 _ _ _ _ _ _ _ _)
      | (with_reducible exact ih2 _ _ _ _ _ _ _ _ _ _)
      | (with_reducible exact ih3 _ _ _ _ _ _ _ _ _ _)
      | (with_reducible exact ih4 _ _ _ _ _ _ _ _ _ _)
      | (with_reducible exact abacuslaw15_awake.mono _)
      | (with_reducible exact abacuslaw15_places.mono _ _)
      | (with_reducible exact abacuslaw15_wrong.mono _ _ _ _ _)
      | (with_reducible exact fixed_Figures.mono _ _ _)
      | (with_reducible exact fixed_Places.mono _ _ _)
      | (with_reducible exact point_Render.mono _ _ _ _ _ _)
      | (with_reducible exact LeO.refl _)
      | (with_reducible exact LeO.none _)
      | (with_reducible refine LeO.ite ?_ ?_)
      | (with_reducible refine LeO.bind ?_ (fun _ => ?_))
      | exact ih0 _ _ _ _ _ _ _ _ _
      | exact ih1 _ _ _ _ _ _ _ _
      | exact ih2 _ _ _ _ _ _ _ _ _ _
      | exact ih3 _ _ _ _ _ _ _ _ _ _
      | exact ih4 _ _ _ _ _ _ _ _ _ _
      | exact abacuslaw15_awake.mono _
      | exact abacuslaw15_places.mono _ _
      | exact abacuslaw15_wrong.mono _ _ _ _ _
      | exact fixed_Figures.mono _ _ _
      | exact fixed_Places.mono _ _ _
      | exact point_Render.mono _ _ _ _ _ _
      | exact LeO.none _
      | refine LeO.ite ?_ ?_
      | refine LeO.bind ?_ (fun _ => ?_)
    · intro y0 y1 y2 y3 y4 y5 y6 y7
      unfold abacuslaw15_PointDigits.j1
      repeat' first
      | (with_reducible exact ih0 _ _ _ _ _ _ _ _ _)
      | (with_reducible exact ih1 _ _ _ _ _ _ _ _)
      | (with_reducible exact ih2 _ _ _ _ _ _ _ _ _ _)
      | (with_reducible exact ih3 _ _ _ _ _ _ _ _ _ _)
      | (with_reducible exact ih4 _ _ _ _ _ _ _ _ _ _)
      | (with_reducible exact abacuslaw15_awake.mono _)
      | (with_reducible exact abacuslaw15_places.mono _ _)
      | (with_reducible exact abacuslaw15_wrong.mono _ _ _ _ _)
      | (with_reducible exact fixed_Figures.mono _ _ _)
      | (with_reducible exact fixed_Places.mono _ _ _)
      | (with_reducible exact point_Render.mono _ _ _ _ _ _)
      | (with_reducible exact LeO.refl _)
      | (with_reducible exact LeO.none _)
      | (with_reducible refine LeO.ite ?_ ?_)
      | (with_reducible refine LeO.bind ?_ (fun _ => ?_))
      | exact ih0 _ _ _ _ _ _ _ _ _
      | exact ih1 _ _ _ _ _ _ _ _
      | exact ih2 _ _ _ _ _ _ _ _ _ _
      | exact ih3 _ _ _ _ _ _ _ _ _ _
      | exact ih4 _ _ _ _ _ _ _ _ _ _
      | exact abacuslaw15_awake.mono _
      | exact abacuslaw15_places.mono _ _
      | exact abacuslaw15_wrong.mono _ _ _ _ _
      | exact fixed_Figures.mono _ _ _
      | exact fixed_Places.mono _ _ _
      | exact point_Render.mono _ _ _ _ _ _
      | exact LeO.none _
      | refine LeO.ite ?_ ?_
      | refine LeO.bind ?_ (fun _ => ?_)
    · intro y0 y1 y2 y3 y4 y5 y6 y7 y8 y9
      unfold abacuslaw15_PointDigits.j2
      repeat' first
      | (with_reducible exact ih0 _ _ _ _ _ _ _ _ _)
      | (with_reducible exact ih1 _ _ _ _ _ _ _ _)
      | (with_reducible exact ih2 _ _ _ _ _ _ _ _ _ _)
      | (with_reducible exact ih3 _ _ _ _ _ _ _ _ _ _)
      | (with_reducible exact ih4 _ _ _ _ _ _ _ _ _ _)
      | (with_reducible exact abacuslaw15_awake.mono _)
      | (with_reducible exact abacuslaw15_places.mono _ _)
      | (with_reducible exact abacuslaw15_wrong.mono _ _ _ _ _)
      | (with_reducible exact fixed_Figures.mono _ _ _)
      | (with_reducible exact fixed_Places.mono _ _ _)
      | (with_reducible exact point_Render.mono _ _ _ _ _ _)
      | (with_reducible exact LeO.refl _)
      | (with_reducible exact LeO.none _)
      | (with_reducible refine LeO.ite ?_ ?_)
      | (with_reducible refine LeO.bind ?_ (fun _ => ?_))
      | exact ih0 _ _ _ _ _ _ _ _ _
      | exact ih1 _ _ _ _ _ _ _ _
      | exact ih2 _ _ _ _ _ _ _ _ _ _
      | exact ih3 _ _ _ _ _ _ _ _ _ _
      | exact ih4 _ _ _ _ _ _ _ _ _ _
      | exact abacuslaw15_awake.mono _
      | exact abacuslaw15_places.mono _ _
      | exact abacuslaw15_wrong.mono _ _ _ _ _
      | exact fixed_Figures.mono _ _ _
      | exact fixed_Places.mono _ _ _
      | exact point_Render.mono _ _ _ _ _ _
      | exact LeO.none _
      | refine LeO.ite ?_ ?_
      | refine LeO.bind ?_ (fun _ => ?_)
    · intro y0 y1 y2 y3 y4 y5 y6 y7 y8 y9
      unfold abacuslaw15_PointDigits.j3
      repeat' first
      | (with_reducible exact ih0 _ _ _ _ _ _ _ _ _)
      | (with_reducible exact ih1 _ _ _ _ _ _ _ _)
      | (with_reducible exact ih2 _ _ _ _ _ _ _ _ _ _)
      | (with_reducible exact ih3 _ _ _ _ _ _ _ _ _ _)
      | (with_reducible exact ih4 _ _ _ _ _ _ _ _ _ _)
      | (with_reducible exact abacuslaw15_awake.mono _)
      | (with_reducible exact abacuslaw15_places.mono _ _)
      | (with_reducible exact abacuslaw15_wrong.mono _ _ _ _ _)
      | (with_reducible exact fixed_Figures.mono _ _ _)
      | (with_reducible exact fixed_Places.mono _ _ _)
      | (with_reducible exact point_Render.mono _ _ _ _ _ _)
      | (with_reducible exact LeO.refl _)
      | (with_reducible exact LeO.none _)
      | (with_reducible refine LeO.ite ?_ ?_)
      | (with_reducible refine LeO.bind ?_ (fun _ => ?_))
      | exact ih0 _ _ _ _ _ _ _ _ _
      | exact ih1 _ _ _ _ _ _ _ _
      | exact ih2 _ _ _ _ _ _ _ _ _ _
      | exact ih3 _ _ _ _ _ _ _ _ _ _
      | exact ih4 _ _ _ _ _ _ _ _ _ _
      | exact abacuslaw15_awake.mono _
      | exact abacuslaw15_places.mono _ _
      | exact abacuslaw15_wrong.mono _ _ _ _ _
      | exact fixed_Figures.mono _ _ _
      | exact fixed_Places.mono _ _ _
      | exact point_Render.mono _ _ _ _ _ _
      | exact LeO.none _
      | refine LeO.ite ?_ ?_
      | refine LeO.bind ?_ (fun _ => ?_)
    · intro y0 y1 y2 y3 y4 y5 y6 y7 y8 y9
      unfold abacuslaw15_PointDigits.j4
      repeat' first
      | (with_reducible exact ih0 _ _ _ _ _ _ _ _ _)
      | (with_reducible exact ih1 _ _ _ _ _ _ _ _)
      | (with_reducible exact ih2 _ _ _ _ _ _ _ _ _ _)
      | (with_reducible exact ih3 _ _ _ _ _ _ _ _ _ _)
      | (with_reducible exact ih4 _ _ _ _ _ _ _ _ _ _)
      | (with_reducible exact abacuslaw15_awake.mono _)
      | (with_reducible exact abacuslaw15_places.mono _ _)
      | (with_reducible exact abacuslaw15_wrong.mono _ _ _ _ _)
      | (with_reducible exact fixed_Figures.mono _ _ _)
      | (with_reducible exact fixed_Places.mono _ _ _)
      | (with_reducible exact point_Render.mono _ _ _ _ _ _)
      | (with_reducible exact LeO.refl _)
      | (with_reducible exact LeO.none _)
      | (with_reducible refine LeO.ite ?_ ?_)
      | (with_reducible refine LeO.bind ?_ (fun _ => ?_))
      | exact ih0 _ _ _ _ _ _ _ _ _
      | exact ih1 _ _ _ _ _ _ _ _
      | exact ih2 _ _ _ _ _ _ _ _ _ _
      | exact ih3 _ _ _ _ _ _ _ _ _ _
      | exact ih4 _ _ _ _ _ _ _ _ _ _
      | exact abacuslaw15_awake.mono _
      | exact abacuslaw15_places.mono _ _
      | exact abacuslaw15_wrong.mono _ _ _ _ _
      | exact fixed_Figures.mono _ _ _
      | exact fixed_Places.mono _ _ _
      | exact point_Render.mono _ _ _ _ _ _
      | exact LeO.none _
      | refine LeO.ite ?_ ?_
      | refine LeO.bind ?_ (fun _ => ?_)
theorem abacuslaw15_PointDigits.mono : ∀ a0 a1 a2 a3 a4 k, LeO (abacuslaw15_PointDigits.f k a0 a1 a2 a3 a4) (abacuslaw15_PointDigits.f (k + 1) a0 a1 a2 a3 a4) := by
  intro a0 a1 a2 a3 a4 k; obtain ⟨ih0, ih1, ih2, ih3, ih4⟩ := abacuslaw15_PointDigits.mono_l k; unfold abacuslaw15_PointDigits.f; repeat' first
      | (with_reducible exact ih0 _ _ _ _ _ _ _ _ _)
      | (with_reducible exact ih1 _ _ _ _ _ _ _ _)
      | (with_reducible exact ih2 _ _ _ _ _ _ _ _ _ _)
      | (with_reducible exact ih3 _ _ _ _ _ _ _ _ _ _)
      | (with_reducible exact ih4 _ _ _ _ _ _ _ _ _ _)
      | (with_reducible exact abacuslaw15_awake.mono _)
      | (with_reducible exact abacuslaw15_places.mono _ _)
      | (with_reducible exact abacuslaw15_wrong.mono _ _ _ _ _)
      | (with_reducible exact fixed_Figures.mono _ _ _)
      | (with_reducible exact fixed_Places.mono _ _ _)
      | (with_reducible exact point_Render.mono _ _ _ _ _ _)
      | (with_reducible exact LeO.refl _)
      | (with_reducible exact LeO.none _)
      | (with_reducible refine LeO.ite ?_ ?_)
      | (with_reducible refine LeO.bind ?_ (fun _ => ?_))
      | exact ih0 _ _ _ _ _ _ _ _ _
      | exact ih1 _ _ _ _ _ _ _ _
      | exact ih2 _ _ _ _ _ _ _ _ _ _
      | exact ih3 _ _ _ _ _ _ _ _ _ _
      | exact ih4 _ _ _ _ _ _ _ _ _ _
      | exact abacuslaw15_awake.mono _
      | exact abacuslaw15_places.mono _ _
      | exact abacuslaw15_wrong.mono _ _ _ _ _
      | exact fixed_Figures.mono _ _ _
      | exact fixed_Places.mono _ _ _
      | exact point_Render.mono _ _ _ _ _ _
      | exact LeO.none _
      | refine LeO.ite ?_ ?_
      | refine LeO.bind ?_ (fun _ => ?_)
def abacuslaw15_PointDigits.T21 : Bool × List (List Nat × List Nat) := (true, [([], []), ([0], [0]), ([], []), ([2], [2]), ([], []), ([1, 3, 4], [1, 3, 4]), ([], []), ([6], [6]), ([7], [7]), ([8], [8]), ([5, 9], [5, 9]), ([10, 5, 0, 1, 2, 3, 4, 5, 6, 7, 8, 9, 10], [10])])
def abacuslaw15_PointDigits.B21 : List Nat := [0, 1, 0, 4, 0, 31, 0, 64, 192, 448, 1023, 2047]
theorem abacuslaw15_PointDigits.tab21 : rtab .any (opsOf Tryz.f5 21) = abacuslaw15_PointDigits.T21 := by kernel_rfl
theorem abacuslaw15_PointDigits.bits21 : waitsOk abacuslaw15_PointDigits.T21.2 abacuslaw15_PointDigits.B21 = true := by kernel_rfl
theorem abacuslaw15_PointDigits.w1 {P : Prop} (h : P := by
  go_wp2; go_ret; exact ⟨by exact phEy_8, by exact phEy_1⟩) : P := h
theorem abacuslaw15_PointDigits.w2 {P : Prop} (h : P := by
  go_wp2; go_meet
  case rel => exact ⟨_, (true), (by exact phEy_5), H', ⟨by have := HJ7.out; have := HJ19.out; have := HJ22.out; have := HJ35.out; first | omega | exact Nat.le_refl _⟩, ⟨by exact phEy_3⟩, ⟨by exact phEy_1⟩⟩) : P := h
set_option maxHeartbeats 8000000 in
set_option maxRecDepth 100000 in
theorem abacuslaw15_PointDigits.calls (k : Nat) (a0_0 : Int) (a0_1 : Int) (a0_2 : Int) (a0_3 : Int) (a1 : Int) (r : Bool) (w : World) (h : abacuslaw15_PointDigits.f k a0_0 a0_1 a0_2 a0_3 a1 = some r) (hr : r = true) (HG : Aside0 (GW w) := by exact phEy_13) :
    Calls Tryz.prog 5 #[.agg #[.int .u8 a0_0, .int .i64 a0_1, .int .i64 a0_2, .int .i64 a0_3], .int .u64 a1] w fun e w' => e = .returned (.bool r) ∧ Below w.heap.size w w' := by
  have hr' := Aside0.mk hr; clear hr; have hu23 := Tryz.underlying23; have HB := Aside0.mk (Below.refl w.heap.size w); have H : ((abacuslaw15_awake.f k).bind fun t352 => (if t352 = true then ((abacuslaw15_wrong.f k a0_0 a0_1 a0_2 a0_3).bind fun t353 => ((abacuslaw15_bare.f a0_0 a0_1 a0_2 a0_3).bind fun bt354 => ((point_Render.f k bt354.1 bt354.2.1 bt354.2.2.1 bt354.2.2.2 (Int.tmod a1 9223372036854775808)).bind fun bt358 => (if t353 = 0 then ((abacuslaw15_finite.f (Int.tmod a1 9223372036854775808)).bind fun t360 => (abacuslaw15_PointDigits.j0 k (Int.tmod a1 9223372036854775808) t353 bt358.1 bt358.2 (!t360) a0_0 a0_1 a0_2 a0_3)) else (abacuslaw15_PointDigits.j0 k (Int.tmod a1 9223372036854775808) t353 bt358.1 bt358.2 true a0_0 a0_1 a0_2 a0_3))))) else (some false))) = some r := h; clear h; replace H := Option.bind_eq_some_iff.mp H; obtain ⟨t352, A30, H⟩ := H; (try dsimp only at H); have A3 := Aside0.mk A30; clear A30; by_cases c4 : t352 = true
  · subst c4
    have H1 : ((abacuslaw15_wrong.f k a0_0 a0_1 a0_2 a0_3).bind fun t353 => ((abacuslaw15_bare.f a0_0 a0_1 a0_2 a0_3).bind fun bt354 => ((point_Render.f k bt354.1 bt354.2.1 bt354.2.2.1 bt354.2.2.2 (Int.tmod a1 9223372036854775808)).bind fun bt358 => (if t353 = 0 then ((abacuslaw15_finite.f (Int.tmod a1 9223372036854775808)).bind fun t360 => (abacuslaw15_PointDigits.j0 k (Int.tmod a1 9223372036854775808) t353 bt358.1 bt358.2 (!t360) a0_0 a0_1 a0_2 a0_3)) else (abacuslaw15_PointDigits.j0 k (Int.tmod a1 9223372036854775808) t353 bt358.1 bt358.2 true a0_0 a0_1 a0_2 a0_3))))) = some r := by rw [if_pos rfl] at H; exact H
    clear H; have H := H1; clear H1; replace H := Option.bind_eq_some_iff.mp H; obtain ⟨t353, A50, H⟩ := H; (try dsimp only at H); have A5 := Aside0.mk A50; clear A50; replace H := Option.bind_eq_some_iff.mp H; obtain ⟨⟨t354, t355, t356, t357⟩, A60, H⟩ := H; (try dsimp only at H); have A6 := Aside0.mk A60; clear A60; replace H := Option.bind_eq_some_iff.mp H; obtain ⟨⟨t358, t359⟩, A70, H⟩ := H; (try dsimp only at H); have A7 := Aside0.mk A70; clear A70; have HC8 := Aside0.mk H; clear H; go_enter Tryz.func5, Tryz.ntmps5; go_upto_region 7 with (first | ((with_reducible refine gate_dst (N := 2) rfl ?_); (try (refine gate_guard (by rfl) ?_; dsimp only)); refine box_event ?hg (N := 2) ?hd (cs := #[.int .u8 a0_0, .int .i64 a0_1, .int .i64 a0_2, .int .i64 a0_3]) (t := 23) ?hr ?_; (case hd => rfl); (case hg => rfl); (case hr => first | (go_simp; done) | (go_simp; rfl)); intro gb351 hg w9 hbox hb; have n0_ := Aside0.mk (below_step (by exact phEy_2) hb); have n1_ := Aside0.mk (hbox); have n2_ := Aside0.mk ((by rw [hg]; exact (below_size (by exact phEy_2)) : w.heap.size ≤ gb351)); have n3_ := Aside0.mk ((by rw [hg]; exact (below_size (by exact phEy_2)) : w.heap.size ≤ gb351)); clear HB; have HB := n0_; have BK351 := n1_; have GW351 := n2_; have GE351 := n3_; clear n0_ n1_ n2_ n3_; clear hb hbox hg) | ((with_reducible refine gate_callee (f := 13) rfl ?_); refine goesL_ (some 20) rfl rfl Tryz.func13 (by kernel_rfl) rfl #[] rfl (by exact phEy_4) ?_; (with_reducible refine (abacuslaw15_awake.calls k  true _ A3.out).mono ?_); rintro e w10 ⟨rfl, hb⟩; refine ⟨_, rfl, ?_⟩; have n0_ := Aside0.mk (blk_below (g := gb351) (o := .cells #[.int .u8 a0_0, .int .i64 a0_1, .int .i64 a0_2, .int .i64 a0_3] 23 (0, 0)) (by exact phEy_3) hb); have n1_ := Aside0.mk (below_step (by exact phEy_1) hb); clear BK351; clear HB; have BK351 := n0_; have HB := n1_; clear n0_ n1_; (try clear hb); (try clear hb2); (try clear hk); (try clear hi); have hcz11_0 : w10.cell? ⟨gb351, 0, none⟩ = some (.int .u8 a0_0) := (blk_cell BK351.out 0).trans rfl; have hcz11_1 : w10.cell? ⟨gb351, 1, none⟩ = some (.int .i64 a0_1) := (blk_cell BK351.out 1).trans rfl; have hcz11_2 : w10.cell? ⟨gb351, 2, none⟩ = some (.int .i64 a0_2) := (blk_cell BK351.out 2).trans rfl; have hcz11_3 : w10.cell? ⟨gb351, 3, none⟩ = some (.int .i64 a0_3) := (blk_cell BK351.out 3).trans rfl; have hfz11_0 := blk_frozen BK351.out 0; have hfz11_1 := blk_frozen BK351.out 1; have hfz11_2 := blk_frozen BK351.out 2; have hfz11_3 := blk_frozen BK351.out 3) | ((with_reducible refine gate_callee (f := 15) rfl ?_); refine goesL_ (some 24) rfl rfl Tryz.func15 (by kernel_rfl) rfl #[.agg #[.int .u8 a0_0, .int .i64 a0_1, .int .i64 a0_2, .int .i64 a0_3]] rfl (by exact phEy_4) ?_; (with_reducible refine (abacuslaw15_wrong.calls k a0_0 a0_1 a0_2 a0_3 t353 _ A5.out).mono ?_); rintro e w12 ⟨rfl, hb⟩; refine ⟨_, rfl, ?_⟩; have n0_ := Aside0.mk (blk_below (g := gb351) (o := .cells #[.int .u8 a0_0, .int .i64 a0_1, .int .i64 a0_2, .int .i64 a0_3] 23 (0, 0)) (by exact phEy_3) hb); have n1_ := Aside0.mk (below_step (by exact phEy_1) hb); clear BK351; clear HB; have BK351 := n0_; have HB := n1_; clear n0_ n1_; (try clear hb); (try clear hb2); (try clear hk); (try clear hi); have hcz13_0 : w12.cell? ⟨gb351, 0, none⟩ = some (.int .u8 a0_0) := (blk_cell BK351.out 0).trans rfl; have hcz13_1 : w12.cell? ⟨gb351, 1, none⟩ = some (.int .i64 a0_1) := (blk_cell BK351.out 1).trans rfl; have hcz13_2 : w12.cell? ⟨gb351, 2, none⟩ = some (.int .i64 a0_2) := (blk_cell BK351.out 2).trans rfl; have hcz13_3 : w12.cell? ⟨gb351, 3, none⟩ = some (.int .i64 a0_3) := (blk_cell BK351.out 3).trans rfl; have hfz13_0 := blk_frozen BK351.out 0; have hfz13_1 := blk_frozen BK351.out 1; have hfz13_2 := blk_frozen BK351.out 2; have hfz13_3 := blk_frozen BK351.out 3) | ((with_reducible refine gate_callee (f := 19) rfl ?_); refine goesL_ (some 29) rfl rfl Tryz.func19 (by kernel_rfl) rfl #[.agg #[.int .u8 a0_0, .int .i64 a0_1, .int .i64 a0_2, .int .i64 a0_3]] rfl (by exact phEy_4) ?_; (with_reducible refine (abacuslaw15_bare.calls a0_0 a0_1 a0_2 a0_3 t354 t355 t356 t357 _ A6.out).mono ?_); rintro e w14 ⟨rfl, hb⟩; refine ⟨_, rfl, ?_⟩; have n0_ := Aside0.mk (blk_below (g := gb351) (o := .cells #[.int .u8 a0_0, .int .i64 a0_1, .int .i64 a0_2, .int .i64 a0_3] 23 (0, 0)) (by exact phEy_3) hb); have n1_ := Aside0.mk (below_step (by exact phEy_1) hb); clear BK351; clear HB; have BK351 := n0_; have HB := n1_; clear n0_ n1_; (try clear hb); (try clear hb2); (try clear hk); (try clear hi)) | ((with_reducible refine gate_callee (f := 14) rfl ?_); refine goesL_ (some 31) rfl rfl Tryz.func14 (by kernel_rfl) rfl #[.agg #[.int .u8 t354, .int .i64 t355, .int .i64 t356, .int .i64 t357], .int .u64 (Int.tmod a1 9223372036854775808)] rfl (by exact phEy_4) ?_; (with_reducible refine (point_Render.calls k t354 t355 t356 t357 (Int.tmod a1 9223372036854775808) t358 t359 _ A7.out).mono ?_); rintro e w15 ⟨rfl, hb⟩; refine ⟨_, rfl, ?_⟩; have n0_ := Aside0.mk (blk_below (g := gb351) (o := .cells #[.int .u8 a0_0, .int .i64 a0_1, .int .i64 a0_2, .int .i64 a0_3] 23 (0, 0)) (by exact phEy_3) hb); have n1_ := Aside0.mk (below_step (by exact phEy_1) hb); clear BK351; clear HB; have BK351 := n0_; have HB := n1_; clear n0_ n1_; (try clear hb); (try clear hb2); (try clear hk); (try clear hi)))
    (try simp only [Act.put, List.setIfInBounds_toArray, List.set_cons_zero, List.set_cons_succ])
    go_cut [40] (fun v40 wc => ∃ (kq : Nat) (x40_7 : Bool), v40 = .bool x40_7 ∧ Aside0 (abacuslaw15_PointDigits.j0 kq (Int.tmod a1 9223372036854775808) t353 t358 t359 x40_7 a0_0 a0_1 a0_2 a0_3 = some r) ∧ Aside0 (kq ≤ k) ∧ Aside0 (wc.heap[gb351]? = some (.cells #[.int .u8 a0_0, .int .i64 a0_1, .int .i64 a0_2, .int .i64 a0_3] 23 (0, 0))) ∧ Aside0 (Below w.heap.size w wc))
    case first =>
      have H := HC8.out; clear HC8; by_cases c16 : t353 = 0
      · rw [if_pos c16] at H
        have c16b0 : (t353 == 0) = true := beq_iff_eq.mpr c16; have c16b1 : (t353 != 0) = false := bne_eq_false_iff_eq.mpr c16; clear c16; (first | rw [c16b0] | (simp only [i64_w, i32_w]; rw [c16b0]) | skip)
        replace H := Option.bind_eq_some_iff.mp H; obtain ⟨t360, A170, H⟩ := H; (try dsimp only at H); have A17 := Aside0.mk A170; clear A170; have H' := Aside0.mk H; clear H; go_wp2_with (first | (go_at_call 16; (with_reducible refine (abacuslaw15_finite.calls (Int.tmod a1 9223372036854775808) t360 _ A17.out).mono ?_); rintro e w' ⟨rfl, ⟨nd, rfl⟩⟩)); go_meet
        case rel => exact ⟨_, (!t360), (by exact phEy_5), H', ⟨by first | omega | exact Nat.le_refl _⟩, ⟨by exact phEy_3⟩, ⟨by exact phEy_1⟩⟩
      rw [if_neg c16] at H; have c16b0 : (t353 == 0) = false := beq_eq_false_iff_ne.mpr c16; have c16b1 : (t353 != 0) = true := bne_iff_ne.mpr c16; (first | rw [c16b0] | (simp only [i64_w, i32_w]; rw [c16b0]) | skip)
      have H' := Aside0.mk H; clear H; go_wp2; go_meet
      case rel => exact ⟨_, (true), (by exact phEy_5), H', ⟨by first | omega | exact Nat.le_refl _⟩, ⟨by exact phEy_3⟩, ⟨by exact phEy_1⟩⟩
    case rest =>
      clear HC8; (try clear c1); (try clear p2); (try clear c4); (try clear c5); (try clear c13); (try clear c14); (try clear c15); (try clear c16); (try clear c16b0); (try clear c16b1); (try clear hcz11_0); (try clear hcz11_1); (try clear hcz11_2); (try clear hcz11_3); (try clear hcz13_0); (try clear hcz13_1); (try clear hcz13_2); (try clear hcz13_3); (try clear hfz11_0); (try clear hfz11_1); (try clear hfz11_2); (try clear hfz11_3); (try clear hfz13_0); (try clear hfz13_1); (try clear hfz13_2); (try clear hfz13_3); obtain ⟨kq, x40_7, rfl, HA, HJ7, BK351, HB⟩ := hcut; cases kq with
      | zero => exact absurd HA.out (by simp [abacuslaw15_PointDigits.j0])
      | succ kj7 =>
        have H := HA.out; clear HA; simp only [abacuslaw15_PointDigits.j0] at H; by_cases c18 : x40_7 = true
        · subst c18
          have H1 : (if t353 = 140 then (some (t359 == t353)) else (some true)) = some r := by rw [if_pos rfl] at H; exact H
          clear H; have H := H1; clear H1; by_cases c19 : t353 = 140
          · rw [if_pos c19] at H
            have c19b0 : (t353 == 140) = true := beq_iff_eq.mpr c19; have c19b1 : (t353 != 140) = false := bne_eq_false_iff_eq.mpr c19; clear c19; obtain rfl := Option.some.inj H; exact abacuslaw15_PointDigits.w1
          rw [if_neg c19] at H; have c19b0 : (t353 == 140) = false := beq_eq_false_iff_ne.mpr c19; have c19b1 : (t353 != 140) = true := bne_iff_ne.mpr c19; obtain rfl := Option.some.inj H; exact abacuslaw15_PointDigits.w1
        replace c18 := Bool.eq_false_iff.mpr c18; subst c18; have H1 : (if a0_3 = (-1) then (abacuslaw15_PointDigits.j1 kj7 (Int.tmod a1 9223372036854775808) t358 t359 6 a0_0 a0_1 a0_2 a0_3) else (abacuslaw15_PointDigits.j1 kj7 (Int.tmod a1 9223372036854775808) t358 t359 a0_3 a0_0 a0_1 a0_2 a0_3)) = some r := by rw [if_neg (show ¬ (false = true) by decide)] at H; exact H
        clear H; have H := H1; clear H1; have HC20 := Aside0.mk H; clear H; have hcz21_0 : wc.cell? ⟨gb351, 0, none⟩ = some (.int .u8 a0_0) := (blk_cell BK351.out 0).trans rfl; have hcz21_1 : wc.cell? ⟨gb351, 1, none⟩ = some (.int .i64 a0_1) := (blk_cell BK351.out 1).trans rfl; have hcz21_2 : wc.cell? ⟨gb351, 2, none⟩ = some (.int .i64 a0_2) := (blk_cell BK351.out 2).trans rfl; have hcz21_3 : wc.cell? ⟨gb351, 3, none⟩ = some (.int .i64 a0_3) := (blk_cell BK351.out 3).trans rfl; have hfz21_0 := blk_frozen BK351.out 0; have hfz21_1 := blk_frozen BK351.out 1; have hfz21_2 := blk_frozen BK351.out 2; have hfz21_3 := blk_frozen BK351.out 3; go_upto_if 51 with (fail)
        go_cut [9] (fun v9 wc => ∃ (kq : Nat) (x9_19 : Int), v9 = .int .i64 x9_19 ∧ Aside0 (abacuslaw15_PointDigits.j1 kq (Int.tmod a1 9223372036854775808) t358 t359 x9_19 a0_0 a0_1 a0_2 a0_3 = some r) ∧ Aside0 (kq ≤ kj7) ∧ Aside0 (wc.heap[gb351]? = some (.cells #[.int .u8 a0_0, .int .i64 a0_1, .int .i64 a0_2, .int .i64 a0_3] 23 (0, 0))) ∧ Aside0 (Below w.heap.size w wc))
        case first =>
          have H := HC20.out; clear HC20; by_cases c22 : a0_3 = (-1)
          · rw [if_pos c22] at H
            have c22b0 : (a0_3 == (-1)) = true := beq_iff_eq.mpr c22; have c22b1 : (a0_3 != (-1)) = false := bne_eq_false_iff_eq.mpr c22; clear c22; (first | rw [c22b0] | (simp only [i64_w, i32_w]; rw [c22b0]) | skip)
            have H' := Aside0.mk H; clear H; go_wp2; go_meet
            case rel => exact ⟨_, (6), (by exact phEy_5), H', ⟨by have := HJ7.out; first | omega | exact Nat.le_refl _⟩, ⟨by exact phEy_3⟩, ⟨by exact phEy_1⟩⟩
          rw [if_neg c22] at H; have c22b0 : (a0_3 == (-1)) = false := beq_eq_false_iff_ne.mpr c22; have c22b1 : (a0_3 != (-1)) = true := bne_iff_ne.mpr c22; (first | rw [c22b0] | (simp only [i64_w, i32_w]; rw [c22b0]) | skip)
          have H' := Aside0.mk H; clear H; go_wp2; go_meet
          case rel => exact ⟨_, (a0_3), (by exact phEy_5), H', ⟨by have := HJ7.out; first | omega | exact Nat.le_refl _⟩, ⟨by exact phEy_3⟩, ⟨by exact phEy_1⟩⟩
        case rest =>
          clear HC20; (try clear c1); (try clear c2); (try clear p2); (try clear c4); (try clear c5); (try clear c13); (try clear c14); (try clear c15); (try clear c16); (try clear c16b0); (try clear c16b1); (try clear c18); (try clear c19); (try clear c19b0); (try clear c19b1); (try clear c22); (try clear c22b0); (try clear c22b1); (try clear hcz11_0); (try clear hcz11_1); (try clear hcz11_2); (try clear hcz11_3); (try clear hcz13_0); (try clear hcz13_1); (try clear hcz13_2); (try clear hcz13_3); (try clear hcz21_0); (try clear hcz21_1); (try clear hcz21_2); (try clear hcz21_3); (try clear hfz11_0); (try clear hfz11_1); (try clear hfz11_2); (try clear hfz11_3); (try clear hfz13_0); (try clear hfz13_1); (try clear hfz13_2); (try clear hfz13_3); (try clear hfz21_0); (try clear hfz21_1); (try clear hfz21_2); (try clear hfz21_3); (try clear p2); obtain ⟨kq, x9_19, rfl, HA, HJ19, BK351, HB⟩ := hcut; cases kq with
          | zero => exact absurd HA.out (by simp [abacuslaw15_PointDigits.j1])
          | succ kj19 =>
            have H := HA.out; clear HA; simp only [abacuslaw15_PointDigits.j1] at H; have HC23 := Aside0.mk H; clear H; have hcz24_0 : wc.cell? ⟨gb351, 0, none⟩ = some (.int .u8 a0_0) := (blk_cell BK351.out 0).trans rfl; have hcz24_1 : wc.cell? ⟨gb351, 1, none⟩ = some (.int .i64 a0_1) := (blk_cell BK351.out 1).trans rfl; have hcz24_2 : wc.cell? ⟨gb351, 2, none⟩ = some (.int .i64 a0_2) := (blk_cell BK351.out 2).trans rfl; have hcz24_3 : wc.cell? ⟨gb351, 3, none⟩ = some (.int .i64 a0_3) := (blk_cell BK351.out 3).trans rfl; have hfz24_0 := blk_frozen BK351.out 0; have hfz24_1 := blk_frozen BK351.out 1; have hfz24_2 := blk_frozen BK351.out 2; have hfz24_3 := blk_frozen BK351.out 3; go_upto_region 13 with (fail)
            go_cut [63] (fun v63 wc => ∃ (kq : Nat) (x63_22 : Bool), v63 = .bool x63_22 ∧ Aside0 (abacuslaw15_PointDigits.j2 kq (Int.tmod a1 9223372036854775808) t358 t359 x9_19 ((Go.bits .and .i64 a0_1 8) != 0) x63_22 a0_0 a0_1 a0_2 a0_3 = some r) ∧ Aside0 (kq ≤ kj19) ∧ Aside0 (wc.heap[gb351]? = some (.cells #[.int .u8 a0_0, .int .i64 a0_1, .int .i64 a0_2, .int .i64 a0_3] 23 (0, 0))) ∧ Aside0 (Below w.heap.size w wc))
            case first =>
              have H := HC23.out; clear HC23; by_cases c25 : a0_0 = 102
              · rw [if_pos c25] at H
                have c25b0 : (a0_0 == 102) = true := beq_iff_eq.mpr c25; have c25b1 : (a0_0 != 102) = false := bne_eq_false_iff_eq.mpr c25; clear c25; (first | rw [c25b0] | (simp only [i64_w, i32_w]; rw [c25b0]) | skip)
                have H' := Aside0.mk H; clear H; have hcz26_0 : wc.cell? ⟨gb351, 0, none⟩ = some (.int .u8 a0_0) := (blk_cell BK351.out 0).trans rfl; have hcz26_1 : wc.cell? ⟨gb351, 1, none⟩ = some (.int .i64 a0_1) := (blk_cell BK351.out 1).trans rfl; have hcz26_2 : wc.cell? ⟨gb351, 2, none⟩ = some (.int .i64 a0_2) := (blk_cell BK351.out 2).trans rfl; have hcz26_3 : wc.cell? ⟨gb351, 3, none⟩ = some (.int .i64 a0_3) := (blk_cell BK351.out 3).trans rfl; have hfz26_0 := blk_frozen BK351.out 0; have hfz26_1 := blk_frozen BK351.out 1; have hfz26_2 := blk_frozen BK351.out 2; have hfz26_3 := blk_frozen BK351.out 3; go_wp2; go_meet
                case rel => exact ⟨_, (true), (by exact phEy_5), H', ⟨by have := HJ7.out; have := HJ19.out; first | omega | exact Nat.le_refl _⟩, ⟨by exact phEy_3⟩, ⟨by exact phEy_1⟩⟩
              rw [if_neg c25] at H; have c25b0 : (a0_0 == 102) = false := beq_eq_false_iff_ne.mpr c25; have c25b1 : (a0_0 != 102) = true := bne_iff_ne.mpr c25; (first | rw [c25b0] | (simp only [i64_w, i32_w]; rw [c25b0]) | skip)
              have H' := Aside0.mk H; clear H; have hcz27_0 : wc.cell? ⟨gb351, 0, none⟩ = some (.int .u8 a0_0) := (blk_cell BK351.out 0).trans rfl; have hcz27_1 : wc.cell? ⟨gb351, 1, none⟩ = some (.int .i64 a0_1) := (blk_cell BK351.out 1).trans rfl; have hcz27_2 : wc.cell? ⟨gb351, 2, none⟩ = some (.int .i64 a0_2) := (blk_cell BK351.out 2).trans rfl; have hcz27_3 : wc.cell? ⟨gb351, 3, none⟩ = some (.int .i64 a0_3) := (blk_cell BK351.out 3).trans rfl; have hfz27_0 := blk_frozen BK351.out 0; have hfz27_1 := blk_frozen BK351.out 1; have hfz27_2 := blk_frozen BK351.out 2; have hfz27_3 := blk_frozen BK351.out 3; go_wp2; go_meet
              case rel => exact ⟨_, ((a0_0 == 70)), (by exact phEy_5), H', ⟨by have := HJ7.out; have := HJ19.out; first | omega | exact Nat.le_refl _⟩, ⟨by exact phEy_3⟩, ⟨by exact phEy_1⟩⟩
            case rest =>
              clear HC23; (try clear c1); (try clear c2); (try clear p2); (try clear c4); (try clear c5); (try clear c13); (try clear c14); (try clear c15); (try clear c16); (try clear c16b0); (try clear c16b1); (try clear c18); (try clear c19); (try clear c19b0); (try clear c19b1); (try clear c22); (try clear c22b0); (try clear c22b1); (try clear c25); (try clear c25b0); (try clear c25b1); (try clear hcz11_0); (try clear hcz11_1); (try clear hcz11_2); (try clear hcz11_3); (try clear hcz13_0); (try clear hcz13_1); (try clear hcz13_2); (try clear hcz13_3); (try clear hcz21_0); (try clear hcz21_1); (try clear hcz21_2); (try clear hcz21_3); (try clear hcz24_0); (try clear hcz24_1); (try clear hcz24_2); (try clear hcz24_3); (try clear hcz26_0); (try clear hcz26_1); (try clear hcz26_2); (try clear hcz26_3); (try clear hcz27_0); (try clear hcz27_1); (try clear hcz27_2); (try clear hcz27_3); (try clear hfz11_0); (try clear hfz11_1); (try clear hfz11_2); (try clear hfz11_3); (try clear hfz13_0); (try clear hfz13_1); (try clear hfz13_2); (try clear hfz13_3); (try clear hfz21_0); (try clear hfz21_1); (try clear hfz21_2); (try clear hfz21_3); (try clear hfz24_0); (try clear hfz24_1); (try clear hfz24_2); (try clear hfz24_3); (try clear hfz26_0); (try clear hfz26_1); (try clear hfz26_2); (try clear hfz26_3); (try clear hfz27_0); (try clear hfz27_1); (try clear hfz27_2); (try clear hfz27_3); (try clear p2); obtain ⟨kq, x63_22, rfl, HA, HJ22, BK351, HB⟩ := hcut; cases kq with
              | zero => exact absurd HA.out (by simp [abacuslaw15_PointDigits.j2])
              | succ kj22 =>
                have H := HA.out; clear HA; simp only [abacuslaw15_PointDigits.j2] at H; by_cases c28 : x63_22 = true
                · subst c28
                  have H1 : ((fixed_Places.f kj22 (Int.tmod a1 9223372036854775808) x9_19).bind fun bt361 => (if t359 = 0 then (if bt361.2.2 = 0 then ((abacuslaw15_joined.f bt361.1 bt361.2.1 ((Go.bits .and .i64 a0_1 8) != 0)).bind fun t364 => (some (t358.toList == t364.toList))) else (some false)) else (some false))) = some r := by rw [if_pos rfl] at H; exact H
                  clear H; have H := H1; clear H1; replace H := Option.bind_eq_some_iff.mp H; obtain ⟨⟨t361, t362, t363⟩, A290, H⟩ := H; (try dsimp only at H); have A29 := Aside0.mk A290; clear A290; by_cases c30 : t359 = 0
                  · rw [if_pos c30] at H
                    have c30b0 : (t359 == 0) = true := beq_iff_eq.mpr c30; have c30b1 : (t359 != 0) = false := bne_eq_false_iff_eq.mpr c30; clear c30; by_cases c31 : t363 = 0
                    · rw [if_pos c31] at H
                      have c31b0 : (t363 == 0) = true := beq_iff_eq.mpr c31; have c31b1 : (t363 != 0) = false := bne_eq_false_iff_eq.mpr c31; clear c31; replace H := Option.bind_eq_some_iff.mp H; obtain ⟨t364, A320, H⟩ := H; (try dsimp only at H); have A32 := Aside0.mk A320; clear A320; obtain rfl := Option.some.inj H; go_wp2_with (first | ((with_reducible refine gate_callee (f := 20) rfl ?_); refine goesL_ (some 67) rfl rfl Tryz.func20 (by kernel_rfl) rfl #[.int .u64 (Int.tmod a1 9223372036854775808), .int .i64 x9_19] rfl (by exact phEy_4) ?_; (with_reducible refine (fixed_Places.calls kj22 (Int.tmod a1 9223372036854775808) x9_19 t361 t362 t363 _ A29.out).mono ?_); rintro e w33 ⟨rfl, hb⟩; refine ⟨_, rfl, ?_⟩; have n0_ := Aside0.mk (blk_below (g := gb351) (o := .cells #[.int .u8 a0_0, .int .i64 a0_1, .int .i64 a0_2, .int .i64 a0_3] 23 (0, 0)) (by exact phEy_3) hb); have n1_ := Aside0.mk (below_step (by exact phEy_1) hb); clear BK351; clear HB; have BK351 := n0_; have HB := n1_; clear n0_ n1_; (try clear hb); (try clear hb2); (try clear hk); (try clear hi)) | (go_at_call 21; (with_reducible refine (abacuslaw15_joined.calls t361 t362 ((Go.bits .and .i64 a0_1 8) != 0) t364 _ A32.out).mono ?_); rintro e w' ⟨rfl, ⟨nd, rfl⟩⟩)); go_ret; exact ⟨by exact phEy_8, by exact phEy_1⟩
                    rw [if_neg c31] at H; exact absurd ((Option.some.inj H).trans hr'.out) (by decide)
                  rw [if_neg c30] at H; exact absurd ((Option.some.inj H).trans hr'.out) (by decide)
                replace c28 := Bool.eq_false_iff.mpr c28; subst c28; have H1 : (if a0_0 = 101 then (abacuslaw15_PointDigits.j3 kj22 (Int.tmod a1 9223372036854775808) t358 t359 x9_19 ((Go.bits .and .i64 a0_1 8) != 0) false a0_0 a0_1 a0_2 a0_3) else (abacuslaw15_PointDigits.j3 kj22 (Int.tmod a1 9223372036854775808) t358 t359 x9_19 ((Go.bits .and .i64 a0_1 8) != 0) (a0_0 != 69) a0_0 a0_1 a0_2 a0_3)) = some r := by rw [if_neg (show ¬ (false = true) by decide)] at H; exact H
                clear H; have H := H1; clear H1; have HC36 := Aside0.mk H; clear H; go_upto_region 16 with (fail)
                go_cut [92] (fun v92 wc => ∃ (kq : Nat) (x92_35 : Bool), v92 = .bool x92_35 ∧ Aside0 (abacuslaw15_PointDigits.j3 kq (Int.tmod a1 9223372036854775808) t358 t359 x9_19 ((Go.bits .and .i64 a0_1 8) != 0) x92_35 a0_0 a0_1 a0_2 a0_3 = some r) ∧ Aside0 (kq ≤ kj22) ∧ Aside0 (wc.heap[gb351]? = some (.cells #[.int .u8 a0_0, .int .i64 a0_1, .int .i64 a0_2, .int .i64 a0_3] 23 (0, 0))) ∧ Aside0 (Below w.heap.size w wc))
                case first =>
                  have H := HC36.out; clear HC36; by_cases c37 : a0_0 = 101
                  · rw [if_pos c37] at H
                    have c37b0 : (a0_0 == 101) = true := beq_iff_eq.mpr c37; have c37b1 : (a0_0 != 101) = false := bne_eq_false_iff_eq.mpr c37; clear c37; (first | rw [c37b0] | (simp only [i64_w, i32_w]; rw [c37b0]) | skip)
                    have H' := Aside0.mk H; clear H; have hcz38_0 : wc.cell? ⟨gb351, 0, none⟩ = some (.int .u8 a0_0) := (blk_cell BK351.out 0).trans rfl; have hcz38_1 : wc.cell? ⟨gb351, 1, none⟩ = some (.int .i64 a0_1) := (blk_cell BK351.out 1).trans rfl; have hcz38_2 : wc.cell? ⟨gb351, 2, none⟩ = some (.int .i64 a0_2) := (blk_cell BK351.out 2).trans rfl; have hcz38_3 : wc.cell? ⟨gb351, 3, none⟩ = some (.int .i64 a0_3) := (blk_cell BK351.out 3).trans rfl; have hfz38_0 := blk_frozen BK351.out 0; have hfz38_1 := blk_frozen BK351.out 1; have hfz38_2 := blk_frozen BK351.out 2; have hfz38_3 := blk_frozen BK351.out 3; go_wp2; go_meet
                    case rel => exact ⟨_, (false), (by exact phEy_5), H', ⟨by have := HJ7.out; have := HJ19.out; have := HJ22.out; first | omega | exact Nat.le_refl _⟩, ⟨by exact phEy_3⟩, ⟨by exact phEy_1⟩⟩
                  rw [if_neg c37] at H; have c37b0 : (a0_0 == 101) = false := beq_eq_false_iff_ne.mpr c37; have c37b1 : (a0_0 != 101) = true := bne_iff_ne.mpr c37; (first | rw [c37b0] | (simp only [i64_w, i32_w]; rw [c37b0]) | skip)
                  have H' := Aside0.mk H; clear H; have hcz39_0 : wc.cell? ⟨gb351, 0, none⟩ = some (.int .u8 a0_0) := (blk_cell BK351.out 0).trans rfl; have hcz39_1 : wc.cell? ⟨gb351, 1, none⟩ = some (.int .i64 a0_1) := (blk_cell BK351.out 1).trans rfl; have hcz39_2 : wc.cell? ⟨gb351, 2, none⟩ = some (.int .i64 a0_2) := (blk_cell BK351.out 2).trans rfl; have hcz39_3 : wc.cell? ⟨gb351, 3, none⟩ = some (.int .i64 a0_3) := (blk_cell BK351.out 3).trans rfl; have hfz39_0 := blk_frozen BK351.out 0; have hfz39_1 := blk_frozen BK351.out 1; have hfz39_2 := blk_frozen BK351.out 2; have hfz39_3 := blk_frozen BK351.out 3; go_wp2; go_meet
                  case rel => exact ⟨_, ((a0_0 != 69)), (by exact phEy_5), H', ⟨by have := HJ7.out; have := HJ19.out; have := HJ22.out; first | omega | exact Nat.le_refl _⟩, ⟨by exact phEy_3⟩, ⟨by exact phEy_1⟩⟩
                case rest =>
                  clear HC36; (try clear c1); (try clear c2); (try clear p2); (try clear c3); (try clear c4); (try clear c5); (try clear c13); (try clear c14); (try clear c15); (try clear c16); (try clear c16b0); (try clear c16b1); (try clear c18); (try clear c19); (try clear c19b0); (try clear c19b1); (try clear c20); (try clear c22); (try clear c22b0); (try clear c22b1); (try clear c25); (try clear c25b0); (try clear c25b1); (try clear c28); (try clear c30); (try clear c30b0); (try clear c30b1); (try clear c31); (try clear c31b0); (try clear c31b1); (try clear c37); (try clear c37b0); (try clear c37b1); (try clear hcz11_0); (try clear hcz11_1); (try clear hcz11_2); (try clear hcz11_3); (try clear hcz13_0); (try clear hcz13_1); (try clear hcz13_2); (try clear hcz13_3); (try clear hcz21_0); (try clear hcz21_1); (try clear hcz21_2); (try clear hcz21_3); (try clear hcz24_0); (try clear hcz24_1); (try clear hcz24_2); (try clear hcz24_3); (try clear hcz26_0); (try clear hcz26_1); (try clear hcz26_2); (try clear hcz26_3); (try clear hcz27_0); (try clear hcz27_1); (try clear hcz27_2); (try clear hcz27_3); (try clear hcz38_0); (try clear hcz38_1); (try clear hcz38_2); (try clear hcz38_3); (try clear hcz39_0); (try clear hcz39_1); (try clear hcz39_2); (try clear hcz39_3); (try clear hfz11_0); (try clear hfz11_1); (try clear hfz11_2); (try clear hfz11_3); (try clear hfz13_0); (try clear hfz13_1); (try clear hfz13_2); (try clear hfz13_3); (try clear hfz21_0); (try clear hfz21_1); (try clear hfz21_2); (try clear hfz21_3); (try clear hfz24_0); (try clear hfz24_1); (try clear hfz24_2); (try clear hfz24_3); (try clear hfz26_0); (try clear hfz26_1); (try clear hfz26_2); (try clear hfz26_3); (try clear hfz27_0); (try clear hfz27_1); (try clear hfz27_2); (try clear hfz27_3); (try clear hfz38_0); (try clear hfz38_1); (try clear hfz38_2); (try clear hfz38_3); (try clear hfz39_0); (try clear hfz39_1); (try clear hfz39_2); (try clear hfz39_3); (try clear p2); obtain ⟨kq, x92_35, rfl, HA, HJ35, BK351, HB⟩ := hcut; cases kq with
                  | zero => exact absurd HA.out (by simp [abacuslaw15_PointDigits.j3])
                  | succ kj35 =>
                    have H := HA.out; clear HA; simp only [abacuslaw15_PointDigits.j3] at H; by_cases c40 : x92_35 = true
                    · subst c40
                      have H1 : (some (t359 == 0)) = some r := by rw [if_pos rfl] at H; exact H
                      clear H; have H := H1; clear H1; obtain rfl := Option.some.inj H; exact abacuslaw15_PointDigits.w1
                    replace c40 := Bool.eq_false_iff.mpr c40; subst c40; have H1 : ((fixed_Figures.f kj35 (Int.tmod a1 9223372036854775808) (wrap64 (x9_19 + 1))).bind fun bt365 => (if t359 = 0 then (if bt365.2.2 = 0 then (abacuslaw15_PointDigits.j4 kj35 t358 x9_19 ((Go.bits .and .i64 a0_1 8) != 0) bt365.1 bt365.2.1 ((bt365.1.size : Int) != (wrap64 (x9_19 + 1))) a0_0 a0_1 a0_2 a0_3) else (abacuslaw15_PointDigits.j4 kj35 t358 x9_19 ((Go.bits .and .i64 a0_1 8) != 0) bt365.1 bt365.2.1 true a0_0 a0_1 a0_2 a0_3)) else (abacuslaw15_PointDigits.j4 kj35 t358 x9_19 ((Go.bits .and .i64 a0_1 8) != 0) bt365.1 bt365.2.1 true a0_0 a0_1 a0_2 a0_3))) = some r := by rw [if_neg (show ¬ (false = true) by decide)] at H; exact H
                    clear H; have H := H1; clear H1; replace H := Option.bind_eq_some_iff.mp H; obtain ⟨⟨t365, t366, t367⟩, A410, H⟩ := H; (try dsimp only at H); have A41 := Aside0.mk A410; clear A410; have HC42 := Aside0.mk H; clear H; go_upto_region 19 with (first | ((with_reducible refine gate_callee (f := 22) rfl ?_); refine goesL_ (some 99) rfl rfl Tryz.func22 (by kernel_rfl) rfl #[.int .u64 (Int.tmod a1 9223372036854775808), .int .i64 (wrap64 (x9_19 + 1))] rfl (by exact phEy_4) ?_; (with_reducible refine (fixed_Figures.calls kj35 (Int.tmod a1 9223372036854775808) (wrap64 (x9_19 + 1)) t365 t366 t367 _ A41.out).mono ?_); rintro e w43 ⟨rfl, hb⟩; refine ⟨_, rfl, ?_⟩; have n0_ := Aside0.mk (blk_below (g := gb351) (o := .cells #[.int .u8 a0_0, .int .i64 a0_1, .int .i64 a0_2, .int .i64 a0_3] 23 (0, 0)) (by exact phEy_3) hb); have n1_ := Aside0.mk (below_step (by exact phEy_1) hb); clear BK351; clear HB; have BK351 := n0_; have HB := n1_; clear n0_ n1_; (try clear hb); (try clear hb2); (try clear hk); (try clear hi)))
                    (try simp only [Act.put, List.setIfInBounds_toArray, List.set_cons_zero, List.set_cons_succ])
                    go_cut [115] (fun v115 wc => ∃ (kq : Nat) (x115_41 : Bool), v115 = .bool x115_41 ∧ Aside0 (abacuslaw15_PointDigits.j4 kq t358 x9_19 ((Go.bits .and .i64 a0_1 8) != 0) t365 t366 x115_41 a0_0 a0_1 a0_2 a0_3 = some r) ∧ Aside0 (kq ≤ kj35) ∧ Aside0 (wc.heap[gb351]? = some (.cells #[.int .u8 a0_0, .int .i64 a0_1, .int .i64 a0_2, .int .i64 a0_3] 23 (0, 0))) ∧ Aside0 (Below w.heap.size w wc))
                    case first =>
                      have H := HC42.out; clear HC42; by_cases c44 : t359 = 0
                      · rw [if_pos c44] at H
                        have c44b0 : (t359 == 0) = true := beq_iff_eq.mpr c44; have c44b1 : (t359 != 0) = false := bne_eq_false_iff_eq.mpr c44; clear c44; (first | rw [c44b0] | (simp only [i64_w, i32_w]; rw [c44b0]) | skip)
                        by_cases c45 : t367 = 0
                        · rw [if_pos c45] at H
                          have c45b0 : (t367 == 0) = true := beq_iff_eq.mpr c45; have c45b1 : (t367 != 0) = false := bne_eq_false_iff_eq.mpr c45; clear c45; have H' := Aside0.mk H; clear H; go_wp2; go_meet
                          case rel => exact ⟨_, (((t365.size : Int) != (wrap64 (x9_19 + 1)))), (by exact phEy_5), H', ⟨by have := HJ7.out; have := HJ19.out; have := HJ22.out; have := HJ35.out; first | omega | exact Nat.le_refl _⟩, ⟨by exact phEy_3⟩, ⟨by exact phEy_1⟩⟩
                        rw [if_neg c45] at H; have c45b0 : (t367 == 0) = false := beq_eq_false_iff_ne.mpr c45; have c45b1 : (t367 != 0) = true := bne_iff_ne.mpr c45; have H' := Aside0.mk H; clear H; exact abacuslaw15_PointDigits.w2
                      rw [if_neg c44] at H; have c44b0 : (t359 == 0) = false := beq_eq_false_iff_ne.mpr c44; have c44b1 : (t359 != 0) = true := bne_iff_ne.mpr c44; (first | rw [c44b0] | (simp only [i64_w, i32_w]; rw [c44b0]) | skip)
                      have H' := Aside0.mk H; clear H; exact abacuslaw15_PointDigits.w2
                    case rest =>
                      clear HC42; (try clear c1); (try clear c2); (try clear p2); (try clear c3); (try clear c4); (try clear c5); (try clear p6); (try clear c13); (try clear c14); (try clear c15); (try clear c16); (try clear c16b0); (try clear c16b1); (try clear c18); (try clear c19); (try clear c19b0); (try clear c19b1); (try clear c20); (try clear c22); (try clear c22b0); (try clear c22b1); (try clear c25); (try clear c25b0); (try clear c25b1); (try clear c28); (try clear c30); (try clear c30b0); (try clear c30b1); (try clear c31); (try clear c31b0); (try clear c31b1); (try clear c37); (try clear c37b0); (try clear c37b1); (try clear c40); (try clear c44); (try clear c44b0); (try clear c44b1); (try clear c45); (try clear c45b0); (try clear c45b1); (try clear hcz11_0); (try clear hcz11_1); (try clear hcz11_2); (try clear hcz11_3); (try clear hcz13_0); (try clear hcz13_1); (try clear hcz13_2); (try clear hcz13_3); (try clear hcz21_0); (try clear hcz21_1); (try clear hcz21_2); (try clear hcz21_3); (try clear hcz24_0); (try clear hcz24_1); (try clear hcz24_2); (try clear hcz24_3); (try clear hcz26_0); (try clear hcz26_1); (try clear hcz26_2); (try clear hcz26_3); (try clear hcz27_0); (try clear hcz27_1); (try clear hcz27_2); (try clear hcz27_3); (try clear hcz38_0); (try clear hcz38_1); (try clear hcz38_2); (try clear hcz38_3); (try clear hcz39_0); (try clear hcz39_1); (try clear hcz39_2); (try clear hcz39_3); (try clear hfz11_0); (try clear hfz11_1); (try clear hfz11_2); (try clear hfz11_3); (try clear hfz13_0); (try clear hfz13_1); (try clear hfz13_2); (try clear hfz13_3); (try clear hfz21_0); (try clear hfz21_1); (try clear hfz21_2); (try clear hfz21_3); (try clear hfz24_0); (try clear hfz24_1); (try clear hfz24_2); (try clear hfz24_3); (try clear hfz26_0); (try clear hfz26_1); (try clear hfz26_2); (try clear hfz26_3); (try clear hfz27_0); (try clear hfz27_1); (try clear hfz27_2); (try clear hfz27_3); (try clear hfz38_0); (try clear hfz38_1); (try clear hfz38_2); (try clear hfz38_3); (try clear hfz39_0); (try clear hfz39_1); (try clear hfz39_2); (try clear hfz39_3); (try clear p2); obtain ⟨kq, x115_41, rfl, HA, HJ41, BK351, HB⟩ := hcut; cases kq with
                      | zero => exact absurd HA.out (by simp [abacuslaw15_PointDigits.j4])
                      | succ kj41 =>
                        have H := HA.out; clear HA; simp only [abacuslaw15_PointDigits.j4] at H; by_cases c46 : x115_41 = true
                        · subst c46
                          have H1 : (some false) = some r := by rw [if_pos rfl] at H; exact H
                          clear H; have H := H1; clear H1; obtain rfl := Option.some.inj H; exact abacuslaw15_PointDigits.w1
                        replace c46 := Bool.eq_false_iff.mpr c46; subst c46; have H1 : (if 0 ≤ 1 then (if 1 ≤ (t365.size : Int) then ((abacuslaw15_joined.f (t365.extract 0 1) (t365.extract 1 t365.size) ((Go.bits .and .i64 a0_1 8) != 0)).bind fun t368 => ((some (([a0_0] : List Int) : List Int)).bind fun y369 => (if t368.size + (strOfNums y369).size ≤ 9223372036854775807 then ((abacuslaw15_places.f kj41 t358).bind fun bt372 => (if bt372.1 = x9_19 then (if bt372.2 = t366 then (if (t358.size : Int) ≥ (wrap64 (((t368 ++ (strOfNums y369)).size : Int) + 3)) then (if 0 ≤ ((t368 ++ (strOfNums y369)).size : Int) then (if ((t368 ++ (strOfNums y369)).size : Int) ≤ (t358.size : Int) then (if (t358.extract 0 (((t368 ++ (strOfNums y369)).size : Int) : Int).toNat).toList = (t368 ++ (strOfNums y369)).toList then (if ((t368 ++ (strOfNums y369)).size : Int) < (t358.size : Int) then (some (((bt t358 ((t368 ++ (strOfNums y369)).size : Int)) == 43) == (decide (t366 ≥ 0)))) else (none)) else (some false)) else (none)) else (none)) else (some false)) else (some false)) else (some false))) else (none)))) else (none)) else (none)) = some r := by rw [if_neg (show ¬ (false = true) by decide)] at H; exact H
                        clear H; have H := H1; clear H1; by_cases c47 : 0 ≤ 1
                        · rw [if_pos c47] at H
                          have c47b0 := eq_true c47; have c47b1 : decide (0 ≤ 1) = true := decide_eq_true c47; clear c47; by_cases c48 : 1 ≤ (t365.size : Int)
                          · rw [if_pos c48] at H
                            have c48b0 := eq_true c48; have c48b1 : decide (1 ≤ (t365.size : Int)) = true := decide_eq_true c48; clear c48; have c49b0 := eq_true (of_decide_eq_true (by exact phEy_9) : 1 ≤ (t365.size : Int)); replace H := Option.bind_eq_some_iff.mp H; obtain ⟨t368, A500, H⟩ := H; (try dsimp only at H); have A50 := Aside0.mk A500; clear A500; obtain ⟨y369, hy369⟩ : ∃ y_ : List Int, y_ = (([a0_0] : List Int)) := ⟨_, rfl⟩; replace H : (if t368.size + (strOfNums y369).size ≤ 9223372036854775807 then ((abacuslaw15_places.f kj41 t358).bind fun bt372 => (if bt372.1 = x9_19 then (if bt372.2 = t366 then (if (t358.size : Int) ≥ (wrap64 (((t368 ++ (strOfNums y369)).size : Int) + 3)) then (if 0 ≤ ((t368 ++ (strOfNums y369)).size : Int) then (if ((t368 ++ (strOfNums y369)).size : Int) ≤ (t358.size : Int) then (if (t358.extract 0 (((t368 ++ (strOfNums y369)).size : Int) : Int).toNat).toList = (t368 ++ (strOfNums y369)).toList then (if ((t368 ++ (strOfNums y369)).size : Int) < (t358.size : Int) then (some (((bt t358 ((t368 ++ (strOfNums y369)).size : Int)) == 43) == (decide (t366 ≥ 0)))) else (none)) else (some false)) else (none)) else (none)) else (some false)) else (some false)) else (some false))) else (none)) = some r := by first | (rw [hy369]; with_reducible exact H) | (have H2_ := (Option.bind_some _ _).symm.trans H; rw [hy369]; with_reducible exact H2_) | (have H2_ := (Option.bind_some _ _).symm.trans H; with_reducible exact H2_) | with_reducible exact H | (rw [hy369]; exact H) | exact H
                            have Ny369 := Aside0.mk hy369; clear hy369; by_cases c51 : t368.size + (strOfNums y369).size ≤ 9223372036854775807
                            · rw [if_pos c51] at H
                              have c51b0 := eq_true c51; have c51b1 : decide (t368.size + (strOfNums y369).size ≤ 9223372036854775807) = true := decide_eq_true c51; (try have c51b2 : (9223372036854775807 < t368.size + (strOfNums y369).size) = False := eq_false (Nat.not_lt.2 c51)); (try have c51b3 := c51b2); (try simp only [ByteArray.size_append, size_lit, List.size_toArray, List.length_cons, List.length_nil, Nat.reduceAdd] at c51b3); replace H := Option.bind_eq_some_iff.mp H; obtain ⟨⟨t372, t373⟩, A520, H⟩ := H; (try dsimp only at H); have A52 := Aside0.mk A520; clear A520; by_cases c53 : t372 = x9_19
                              · rw [if_pos c53] at H
                                have c53b0 : (t372 == x9_19) = true := beq_iff_eq.mpr c53; have c53b1 : (t372 != x9_19) = false := bne_eq_false_iff_eq.mpr c53; clear c53; by_cases c54 : t373 = t366
                                · rw [if_pos c54] at H
                                  have c54b0 : (t373 == t366) = true := beq_iff_eq.mpr c54; have c54b1 : (t373 != t366) = false := bne_eq_false_iff_eq.mpr c54; clear c54; by_cases c55 : (t358.size : Int) ≥ (wrap64 (((t368 ++ (strOfNums y369)).size : Int) + 3))
                                  · rw [if_pos c55] at H
                                    have c55b0 : decide ((wrap64 (((t368 ++ (strOfNums y369)).size : Int) + 3)) ≤ (t358.size : Int)) = true := decide_eq_true c55; have d55b0 := c55b0; simp only [ByteArray.size_append, Int.natCast_add] at d55b0; clear c55; by_cases c56 : 0 ≤ ((t368 ++ (strOfNums y369)).size : Int)
                                    · rw [if_pos c56] at H
                                      have c56b0 := eq_true c56; have d56x := c56b0; simp only [ByteArray.size_append, Int.natCast_add] at d56x; have c56b1 : decide (0 ≤ ((t368 ++ (strOfNums y369)).size : Int)) = true := decide_eq_true c56; have d56b1 := c56b1; simp only [ByteArray.size_append, Int.natCast_add] at d56b1; by_cases c57 : ((t368 ++ (strOfNums y369)).size : Int) ≤ (t358.size : Int)
                                      · rw [if_pos c57] at H
                                        have c57b0 := eq_true c57; have d57x := c57b0; simp only [ByteArray.size_append, Int.natCast_add] at d57x; have c57b1 : decide (((t368 ++ (strOfNums y369)).size : Int) ≤ (t358.size : Int)) = true := decide_eq_true c57; have d57b1 := c57b1; simp only [ByteArray.size_append, Int.natCast_add] at d57b1; by_cases c58 : (t358.extract 0 (((t368 ++ (strOfNums y369)).size : Int) : Int).toNat).toList = (t368 ++ (strOfNums y369)).toList
                                        · rw [if_pos c58] at H
                                          have c58b0 : ((t358.extract 0 (((t368 ++ (strOfNums y369)).size : Int) : Int).toNat).toList == (t368 ++ (strOfNums y369)).toList) = true := beq_iff_eq.mpr c58; have d58b0 := c58b0; simp only [ByteArray.size_append, Int.natCast_add] at d58b0; have e58b0 := c58b0; simp only [ByteArray.size_append, Int.toNat_natCast] at e58b0; have c58b1 : ((t358.extract 0 (((t368 ++ (strOfNums y369)).size : Int) : Int).toNat).toList != (t368 ++ (strOfNums y369)).toList) = false := bne_eq_false_iff_eq.mpr c58; have d58b1 := c58b1; simp only [ByteArray.size_append, Int.natCast_add] at d58b1; have e58b1 := c58b1; simp only [ByteArray.size_append, Int.toNat_natCast] at e58b1; clear c58; by_cases c59 : ((t368 ++ (strOfNums y369)).size : Int) < (t358.size : Int)
                                          · rw [if_pos c59] at H
                                            have h59 : t368.size + (strOfNums y369).size < t358.size := by have := Int.ofNat_lt.mp c59; rw [ByteArray.size_append] at this; exact this
                                            have hb59 : bt t358 ((t368 ++ (strOfNums y369)).size : Int) = ((t358[t368.size + (strOfNums y369).size]'h59).toNat : Int) := by
                                              have h2 : (((t368 ++ (strOfNums y369)).size : Int)).toNat < t358.size := by rw [Int.toNat_natCast, ByteArray.size_append]; exact h59
                                              rw [← bt_at _ _ h2]; simp only [Int.toNat_natCast, ByteArray.size_append]
                                            have hb59' := Aside0.mk hb59; clear hb59; have c59b0 : decide (((t368 ++ (strOfNums y369)).size : Int) < (t358.size : Int)) = true := decide_eq_true c59; have d59b0 := c59b0; simp only [ByteArray.size_append, Int.natCast_add] at d59b0; have c59b1 : decide ((t368 ++ (strOfNums y369)).size < t358.size) = true := decide_eq_true (Int.ofNat_lt.mp c59); have d59b1 := c59b1; simp only [ByteArray.size_append, Int.natCast_add] at d59b1; clear c59; obtain rfl := Option.some.inj H; (try go_wp2); have n0_ := Aside0.mk (blk_drew BK351.out); have n1_ := Aside0.mk (below_drew1 HB.out); clear BK351; clear HB; have BK351 := n0_; have HB := n1_; clear n0_ n1_; refine start_ (n := 12) (S := fun w' => w'.cell? ⟨gb351, 0, none⟩ = some (.int .u8 a0_0) ∧ w'.cell? ⟨gb351, 1, none⟩ = some (.int .i64 a0_1) ∧ w'.cell? ⟨gb351, 2, none⟩ = some (.int .i64 a0_2) ∧ w'.cell? ⟨gb351, 3, none⟩ = some (.int .i64 a0_3)) (ds := []) #[false, false, false, false, false, false, false, false, false, false, false, false] (by kernel_rfl) rfl rfl ⟨(blk_cell BK351.out 0).trans rfl, (blk_cell BK351.out 1).trans rfl, (blk_cell BK351.out 2).trans rfl, (blk_cell BK351.out 3).trans rfl⟩ (fun hHeld => ?_); refine with_tabW abacuslaw15_PointDigits.tab21 abacuslaw15_PointDigits.bits21 (fun HT_ HW_ => ?_); generalize wc.drew = w61 at BK351 HB hHeld ⊢; refine pure_ (i := 0) (N := some 116) (v := ?_) (a' := ?_) #[true, false, false, false, false, false, false, false, false, false, false, false] rfl rfl (any_of HT_.out (by kernel_rfl)) (fun _ _ _ h => h) (Or.inl ⟨by rfl, ?_⟩) ?_ ?_; rotate_left
                                            · intro w'
                                              go_simp
                                              with_reducible rfl
                                            rotate_left
                                            · simp only [Act.put, List.setIfInBounds_toArray, List.set_cons_zero, List.set_cons_succ, i64_w, i32_w]
                                              rfl
                                            refine pure_ (i := 1) (N := some 117) (v := ?_) (a' := ?_) #[true, true, false, false, false, false, false, false, false, false, false, false] rfl rfl (any_of HT_.out (by kernel_rfl)) (fun _ _ _ h => h) (Or.inl ⟨by rfl, ?_⟩) ?_ ?_; rotate_left
                                            · intro w'
                                              go_simp
                                              with_reducible rfl
                                            rotate_left
                                            · simp only [Act.put, List.setIfInBounds_toArray, List.set_cons_zero, List.set_cons_succ, i64_w, i32_w]
                                              rfl
                                            refine pure_ (i := 2) (N := some 118) (v := ?_) (a' := ?_) #[true, true, true, false, false, false, false, false, false, false, false, false] rfl rfl (any_of HT_.out (by kernel_rfl)) (fun _ _ _ h => h) (Or.inl ⟨by rfl, ?_⟩) ?_ ?_; rotate_left
                                            · intro w'
                                              go_simp
                                              with_reducible rfl
                                            rotate_left
                                            · simp only [Act.put, List.setIfInBounds_toArray, List.set_cons_zero, List.set_cons_succ, i64_w, i32_w]
                                              rfl
                                            refine pure_ (i := 3) (N := some 119) (v := ?_) (a' := ?_) #[true, true, true, true, false, false, false, false, false, false, false, false] rfl rfl (any_of HT_.out (by kernel_rfl)) (fun _ _ _ h => h) (Or.inl ⟨by rfl, ?_⟩) ?_ ?_; rotate_left
                                            · intro w'
                                              go_simp
                                              with_reducible rfl
                                            rotate_left
                                            · simp only [Act.put, List.setIfInBounds_toArray, List.set_cons_zero, List.set_cons_succ, i64_w, i32_w]
                                              rfl
                                            refine pure_ (i := 4) (N := some 120) (v := ?_) (a' := ?_) #[true, true, true, true, true, false, false, false, false, false, false, false] rfl rfl (any_of HT_.out (by kernel_rfl)) (fun _ _ _ h => h) (Or.inl ⟨by rfl, ?_⟩) ?_ ?_; rotate_left
                                            · intro w'
                                              go_simp
                                              with_reducible rfl
                                            rotate_left
                                            · simp only [Act.put, List.setIfInBounds_toArray, List.set_cons_zero, List.set_cons_succ, i64_w, i32_w]
                                              rfl
                                            refine pure_ (i := 6) (N := some 122) (v := ?_) (a' := ?_) #[true, true, true, true, true, false, true, false, false, false, false, false] rfl rfl (any_of HT_.out (by kernel_rfl)) (fun _ _ _ h => h) (Or.inl ⟨by rfl, ?_⟩) ?_ ?_; rotate_left
                                            · intro w'
                                              go_simp
                                              with_reducible rfl
                                            rotate_left
                                            · simp only [Act.put, List.setIfInBounds_toArray, List.set_cons_zero, List.set_cons_succ, i64_w, i32_w]
                                              rfl
                                            refine take_ (i := 7) (N := some 123) (v := ?_) (a' := ?_) #[true, true, true, true, true, false, true, true, false, false, false, false] rfl rfl (take_ofW HT_.out HW_.out (by kernel_rfl)) (fun _ _ _ h => h) (Or.inl ⟨by rfl, ?_⟩) hHeld ?_ ?_; rotate_left
                                            · rintro w' ⟨s0, s1, s2, s3⟩
                                              go_simp
                                              with_reducible rfl
                                            rotate_left
                                            · simp only [Act.put, List.setIfInBounds_toArray, List.set_cons_zero, List.set_cons_succ, i64_w, i32_w]
                                              rfl
                                            refine join_ (σ := Value) 2 #[true, true, true, true, true, true, true, true, true, true, false, false] (fun s_ => [(121, .string t368), (124, s_), (125, .string (strOfNums y369))]) (fun s_ w' => (w'.cell? ⟨gb351, 0, none⟩ = some (.int .u8 a0_0) ∧ w'.cell? ⟨gb351, 1, none⟩ = some (.int .i64 a0_1) ∧ w'.cell? ⟨gb351, 2, none⟩ = some (.int .i64 a0_2) ∧ w'.cell? ⟨gb351, 3, none⟩ = some (.int .i64 a0_3)) ∧ (Kd.R (Kd.int .u8) 5 w' w.heap.size (fun _ => True) s_ y369) ∧ (w'.heap[gb351]? = some (.cells #[.int .u8 a0_0, .int .i64 a0_1, .int .i64 a0_2, .int .i64 a0_3] 23 (0, 0))) ∧ (Below w.heap.size w w')) ?_ ?_; rotate_left
                                            · intro hCont
                                              refine two_ (i := 5) (j := 8) (Ni := some 121) (Nj := some 124) #[true, true, true, true, true, true, true, true, false, false, false, false] #[true, true, true, true, true, false, true, true, true, false, false, false] rfl rfl rfl rfl (two_of HT_.out (by kernel_rfl)) (by decide) (by decide) (fun K hK => ?_) (fun K hK => ?_)
                                              · skip
                                                refine goes_ Tryz.func21 (by kernel_rfl) rfl #[.string (t365.extract 0 1), .string (t365.extract 1 t365.size), .bool ((Go.bits .and .i64 a0_1 8) != 0)] (by rfl) rfl rfl (by exact phEy_4) ?_; with_reducible refine (abacuslaw15_joined.calls (t365.extract 0 1) (t365.extract 1 t365.size) ((Go.bits .and .i64 a0_1 8) != 0) t368 _ A50.out).mono ?_
                                                rintro e w' ⟨rfl, ⟨nd, rfl⟩⟩; refine ⟨_, rfl, ?_⟩; refine hK.out _ _ ⟨(blk_cell BK351.out 0).trans rfl, (blk_cell BK351.out 1).trans rfl, (blk_cell BK351.out 2).trans rfl, (blk_cell BK351.out 3).trans rfl⟩ (fun hHeld => ?_); clear hK K; refine norm_ (a' := ?_) ?_ ?_; rotate_left
                                                · show Act.put _ (some 121) _ = _
                                                  simp only [Act.put, List.setIfInBounds_toArray, List.set_cons_zero, List.set_cons_succ, i64_w, i32_w]; rfl
                                                refine one_ (i := 8) (N := some 124) #[true, true, true, true, true, true, true, true, true, false, false, false] rfl rfl (one_of HT_.out (by kernel_rfl)) (by decide) (fun K hK => ?_); refine Kd.R_lit_step (Kd.int .u8) _ 5 ?hg (N := 124) ?hd (xs := ([a0_0] : List Int)) (inner := [.int .u8 a0_0]) (ok := fun _ => True) (okp := fun _ => True) ?hr ?hp (fun _ hk => hk) trivial (Below.refl _ _) (Nat.le_refl _) (by simp) ?_; (case hd => rfl); (case hg => rfl); (case hr => first | (go_simp; done) | (go_simp; rfl)); (case hp => exact (Reps.one (show Kd.M (Kd.int .u8) _ _ _ a0_0 [.int .u8 a0_0] from rfl) (Reps.none _ _))); intro v370 w62 ho63 hb hg_ hnew_; clear hg_ hnew_; (first | rw [← Ny369.out] at ho63 | (simp only [Int.reduceToNat] at ho63; rw [← Ny369.out] at ho63))
                                                have n0_ := Aside0.mk (Kd.R_lower ho63 (below_size (by exact phEy_1))); have n1_ := Aside0.mk (blk_below (g := gb351) (o := .cells #[.int .u8 a0_0, .int .i64 a0_1, .int .i64 a0_2, .int .i64 a0_3] 23 (0, 0)) (by exact phEy_3) hb); have n2_ := Aside0.mk (below_step (by exact phEy_1) hb); clear BK351; clear HB; have HO371 := n0_; have BK351 := n1_; have HB := n2_; clear n0_ n1_ n2_; clear hb ho63; refine hK.out _ _ ⟨(blk_cell BK351.out 0).trans rfl, (blk_cell BK351.out 1).trans rfl, (blk_cell BK351.out 2).trans rfl, (blk_cell BK351.out 3).trans rfl⟩ (fun hHeld => ?_); clear hK K; refine norm_ (a' := ?_) ?_ ?_; rotate_left
                                                · show Act.put _ (some 124) _ = _
                                                  simp only [Act.put, List.setIfInBounds_toArray, List.set_cons_zero, List.set_cons_succ, i64_w, i32_w]; rfl
                                                refine one_ (i := 9) (N := some 125) #[true, true, true, true, true, true, true, true, true, true, false, false] rfl rfl (one_of HT_.out (by kernel_rfl)) (by decide) (fun K hK => ?_); have hcv64 := own_string (P := Tryz.prog) Tryz.underlying30 Tryz.underlying5 Tryz.underlying9 (Kd.own_of_R HO371.out); have hcv64q := fun n_ => own_string (P := Tryz.prog) Tryz.underlying30 Tryz.underlying5 Tryz.underlying9 (Kd.own_of_R (Kd.R_drewN HO371.out n_))
                                                refine value_ (w1 := ?_) (v := ?_) (by rfl) rfl ?_ ?_; rotate_left 2
                                                · go_simp
                                                  constructor
                                                  · rfl
                                                  rfl
                                                clear hcv64; refine hK.out _ _ ⟨(blk_cell BK351.out 0).trans rfl, (blk_cell BK351.out 1).trans rfl, (blk_cell BK351.out 2).trans rfl, (blk_cell BK351.out 3).trans rfl⟩ (fun hHeld => ?_); clear hK K; refine norm_ (a' := ?_) ?_ ?_; rotate_left
                                                · show Act.put _ (some 125) _ = _
                                                  simp only [Act.put, List.setIfInBounds_toArray, List.set_cons_zero, List.set_cons_succ, i64_w, i32_w]; rfl
                                                exact norm_ (by simp only [putAll, Act.put, List.setIfInBounds_toArray, List.set_cons_zero, List.set_cons_succ]) (hCont (v370) _ ⟨hHeld, (by exact phEy_6), (by exact phEy_3), (by exact phEy_1)⟩)
                                              skip
                                              refine Kd.R_lit_step (Kd.int .u8) _ 5 ?hg (N := 124) ?hd (xs := ([a0_0] : List Int)) (inner := [.int .u8 a0_0]) (ok := fun _ => True) (okp := fun _ => True) ?hr ?hp (fun _ hk => hk) trivial (Below.refl _ _) (Nat.le_refl _) (by simp) ?_; (case hd => rfl); (case hg => rfl); (case hr => first | (go_simp; done) | (go_simp; rfl)); (case hp => exact (Reps.one (show Kd.M (Kd.int .u8) _ _ _ a0_0 [.int .u8 a0_0] from rfl) (Reps.none _ _))); intro v370 w62 ho63 hb hg_ hnew_; clear hg_ hnew_; (first | rw [← Ny369.out] at ho63 | (simp only [Int.reduceToNat] at ho63; rw [← Ny369.out] at ho63))
                                              have n0_ := Aside0.mk (Kd.R_lower ho63 (below_size (by exact phEy_1))); have n1_ := Aside0.mk (blk_below (g := gb351) (o := .cells #[.int .u8 a0_0, .int .i64 a0_1, .int .i64 a0_2, .int .i64 a0_3] 23 (0, 0)) (by exact phEy_3) hb); have n2_ := Aside0.mk (below_step (by exact phEy_1) hb); clear BK351; clear HB; have HO371 := n0_; have BK351 := n1_; have HB := n2_; clear n0_ n1_ n2_; clear hb ho63; refine hK.out _ _ ⟨(blk_cell BK351.out 0).trans rfl, (blk_cell BK351.out 1).trans rfl, (blk_cell BK351.out 2).trans rfl, (blk_cell BK351.out 3).trans rfl⟩ (fun hHeld => ?_); clear hK K; refine norm_ (a' := ?_) ?_ ?_; rotate_left
                                              · show Act.put _ (some 124) _ = _
                                                simp only [Act.put, List.setIfInBounds_toArray, List.set_cons_zero, List.set_cons_succ, i64_w, i32_w]; rfl
                                              refine two_ (i := 5) (j := 9) (Ni := some 121) (Nj := some 125) #[true, true, true, true, true, true, true, true, true, false, false, false] #[true, true, true, true, true, false, true, true, true, true, false, false] rfl rfl rfl rfl (two_of HT_.out (by kernel_rfl)) (by decide) (by decide) (fun K hK => ?_) (fun K hK => ?_)
                                              · skip
                                                refine goes_ Tryz.func21 (by kernel_rfl) rfl #[.string (t365.extract 0 1), .string (t365.extract 1 t365.size), .bool ((Go.bits .and .i64 a0_1 8) != 0)] (by rfl) rfl rfl (by exact phEy_4) ?_; with_reducible refine (abacuslaw15_joined.calls (t365.extract 0 1) (t365.extract 1 t365.size) ((Go.bits .and .i64 a0_1 8) != 0) t368 _ A50.out).mono ?_
                                                rintro e w' ⟨rfl, ⟨nd, rfl⟩⟩; refine ⟨_, rfl, ?_⟩; refine hK.out _ _ ⟨(blk_cell BK351.out 0).trans rfl, (blk_cell BK351.out 1).trans rfl, (blk_cell BK351.out 2).trans rfl, (blk_cell BK351.out 3).trans rfl⟩ (fun hHeld => ?_); clear hK K; refine norm_ (a' := ?_) ?_ ?_; rotate_left
                                                · show Act.put _ (some 121) _ = _
                                                  simp only [Act.put, List.setIfInBounds_toArray, List.set_cons_zero, List.set_cons_succ, i64_w, i32_w]; rfl
                                                refine one_ (i := 9) (N := some 125) #[true, true, true, true, true, true, true, true, true, true, false, false] rfl rfl (one_of HT_.out (by kernel_rfl)) (by decide) (fun K hK => ?_); have hcv64 := own_string (P := Tryz.prog) Tryz.underlying30 Tryz.underlying5 Tryz.underlying9 (Kd.own_of_R HO371.out); have hcv64q := fun n_ => own_string (P := Tryz.prog) Tryz.underlying30 Tryz.underlying5 Tryz.underlying9 (Kd.own_of_R (Kd.R_drewN HO371.out n_))
                                                refine value_ (w1 := ?_) (v := ?_) (by rfl) rfl ?_ ?_; rotate_left 2
                                                · go_simp
                                                  constructor
                                                  · rfl
                                                  rfl
                                                clear hcv64; refine hK.out _ _ ⟨(blk_cell BK351.out 0).trans rfl, (blk_cell BK351.out 1).trans rfl, (blk_cell BK351.out 2).trans rfl, (blk_cell BK351.out 3).trans rfl⟩ (fun hHeld => ?_); clear hK K; refine norm_ (a' := ?_) ?_ ?_; rotate_left
                                                · show Act.put _ (some 125) _ = _
                                                  simp only [Act.put, List.setIfInBounds_toArray, List.set_cons_zero, List.set_cons_succ, i64_w, i32_w]; rfl
                                                exact norm_ (by simp only [putAll, Act.put, List.setIfInBounds_toArray, List.set_cons_zero, List.set_cons_succ]) (hCont (v370) _ ⟨hHeld, (by exact phEy_6), (by exact phEy_3), (by exact phEy_1)⟩)
                                              skip
                                              have hcv64 := own_string (P := Tryz.prog) Tryz.underlying30 Tryz.underlying5 Tryz.underlying9 (Kd.own_of_R HO371.out); have hcv64q := fun n_ => own_string (P := Tryz.prog) Tryz.underlying30 Tryz.underlying5 Tryz.underlying9 (Kd.own_of_R (Kd.R_drewN HO371.out n_))
                                              refine value_ (w1 := ?_) (v := ?_) (by rfl) rfl ?_ ?_; rotate_left 2
                                              · go_simp
                                                constructor
                                                · rfl
                                                rfl
                                              clear hcv64; refine hK.out _ _ ⟨(blk_cell BK351.out 0).trans rfl, (blk_cell BK351.out 1).trans rfl, (blk_cell BK351.out 2).trans rfl, (blk_cell BK351.out 3).trans rfl⟩ (fun hHeld => ?_); clear hK K; refine norm_ (a' := ?_) ?_ ?_; rotate_left
                                              · show Act.put _ (some 125) _ = _
                                                simp only [Act.put, List.setIfInBounds_toArray, List.set_cons_zero, List.set_cons_succ, i64_w, i32_w]; rfl
                                              refine one_ (i := 5) (N := some 121) #[true, true, true, true, true, true, true, true, true, true, false, false] rfl rfl (one_of HT_.out (by kernel_rfl)) (by decide) (fun K hK => ?_); refine goes_ Tryz.func21 (by kernel_rfl) rfl #[.string (t365.extract 0 1), .string (t365.extract 1 t365.size), .bool ((Go.bits .and .i64 a0_1 8) != 0)] (by rfl) rfl rfl (by exact phEy_4) ?_; with_reducible refine (abacuslaw15_joined.calls (t365.extract 0 1) (t365.extract 1 t365.size) ((Go.bits .and .i64 a0_1 8) != 0) t368 _ A50.out).mono ?_
                                              rintro e w' ⟨rfl, ⟨nd, rfl⟩⟩; refine ⟨_, rfl, ?_⟩; refine hK.out _ _ ⟨(blk_cell BK351.out 0).trans rfl, (blk_cell BK351.out 1).trans rfl, (blk_cell BK351.out 2).trans rfl, (blk_cell BK351.out 3).trans rfl⟩ (fun hHeld => ?_); clear hK K; refine norm_ (a' := ?_) ?_ ?_; rotate_left
                                              · show Act.put _ (some 121) _ = _
                                                simp only [Act.put, List.setIfInBounds_toArray, List.set_cons_zero, List.set_cons_succ, i64_w, i32_w]; rfl
                                              exact norm_ (by simp only [putAll, Act.put, List.setIfInBounds_toArray, List.set_cons_zero, List.set_cons_succ]) (hCont (v370) _ ⟨hHeld, (by exact phEy_6), (by exact phEy_3), (by exact phEy_1)⟩)
                                            rintro v370 w65 ⟨hS_, h0_, h1_, h2_⟩; have n0_ : Aside0 (Kd.R (Kd.int .u8) 5 w65 w.heap.size (fun _ => True) v370 y369) := ⟨h0_⟩; have n1_ : Aside0 (w65.heap[gb351]? = some (.cells #[.int .u8 a0_0, .int .i64 a0_1, .int .i64 a0_2, .int .i64 a0_3] 23 (0, 0))) := ⟨h1_⟩; have n2_ : Aside0 (Below w.heap.size w w65) := ⟨h2_⟩; clear BK351; clear HB; clear h0_ h1_ h2_; have HO371 := n0_; have BK351 := n1_; have HB := n2_; clear n0_ n1_ n2_; have hHeld : w65.cell? ⟨gb351, 0, none⟩ = some (.int .u8 a0_0) ∧ w65.cell? ⟨gb351, 1, none⟩ = some (.int .i64 a0_1) ∧ w65.cell? ⟨gb351, 2, none⟩ = some (.int .i64 a0_2) ∧ w65.cell? ⟨gb351, 3, none⟩ = some (.int .i64 a0_3) := hS_; refine norm_ (a' := ?_) ?_ ?_; rotate_left
                                            · simp only [putAll, Act.put, List.setIfInBounds_toArray, List.set_cons_zero, List.set_cons_succ]
                                              rfl
                                            refine pure_ (i := 10) (N := some 126) (v := ?_) (a' := ?_) #[true, true, true, true, true, true, true, true, true, true, true, false] rfl rfl (any_of HT_.out (by kernel_rfl)) (fun _ _ _ h => h) (Or.inl ⟨by rfl, ?_⟩) ?_ ?_; rotate_left
                                            · intro w'
                                              go_simp
                                              with_reducible rfl
                                            rotate_left
                                            · simp only [Act.put, List.setIfInBounds_toArray, List.set_cons_zero, List.set_cons_succ, i64_w, i32_w]
                                              rfl
                                            refine pure_ (i := 11) (N := some 17) (v := ?_) (a' := ?_) #[true, true, true, true, true, true, true, true, true, true, true, true] rfl rfl (any_of HT_.out (by kernel_rfl)) (fun _ _ _ h => h) (Or.inl ⟨by rfl, ?_⟩) ?_ ?_; rotate_left
                                            · intro w'
                                              go_simp
                                              with_reducible rfl
                                            rotate_left
                                            · simp only [Act.put, List.setIfInBounds_toArray, List.set_cons_zero, List.set_cons_succ, i64_w, i32_w]
                                              rfl
                                            refine done_ (done_of HT_.out (by kernel_rfl)) ?_; (try go_wp2_with (first | ((with_reducible refine gate_callee (f := 23) rfl ?_); refine goesL_ (some 129) rfl rfl Tryz.func23 (by kernel_rfl) rfl #[.string t358] rfl (by exact phEy_4) ?_; (with_reducible refine (abacuslaw15_places.calls kj41 t358 t372 t373 _ A52.out).mono ?_); rintro e w66 ⟨rfl, hb⟩; refine ⟨_, rfl, ?_⟩; have n0_ := Aside0.mk (Kd.R_below (by exact phEy_6) hb); have n1_ := Aside0.mk (blk_below (g := gb351) (o := .cells #[.int .u8 a0_0, .int .i64 a0_1, .int .i64 a0_2, .int .i64 a0_3] 23 (0, 0)) (by exact phEy_3) hb); have n2_ := Aside0.mk (below_step (by exact phEy_1) hb); clear HO371; clear BK351; clear HB; have HO371 := n0_; have BK351 := n1_; have HB := n2_; clear n0_ n1_ n2_; (try clear hb); (try clear hb2); (try clear hk); (try clear hi); have p60 : 0 ≤ (((t368 ++ (strOfNums y369)).size : Int) : Int) := of_decide_eq_true (by exact phEy_9); have q60 : ((t368 ++ (strOfNums y369)).size : Int) < (t358.size : Int) := of_decide_eq_true (by exact phEy_9); have hx60 := bt_at t358 ((t368 ++ (strOfNums y369)).size : Int); replace p60 := eq_true p60; replace q60 := eq_true q60))); go_ret; exact ⟨by rw [hb59'.out]; rfl, by exact phEy_1⟩
                                          rw [if_neg c59] at H; exact absurd H (by simp)
                                        rw [if_neg c58] at H; exact absurd ((Option.some.inj H).trans hr'.out) (by decide)
                                      rw [if_neg c57] at H; exact absurd H (by simp)
                                    rw [if_neg c56] at H; exact absurd H (by simp)
                                  rw [if_neg c55] at H; exact absurd ((Option.some.inj H).trans hr'.out) (by decide)
                                rw [if_neg c54] at H; exact absurd ((Option.some.inj H).trans hr'.out) (by decide)
                              rw [if_neg c53] at H; exact absurd ((Option.some.inj H).trans hr'.out) (by decide)
                            rw [if_neg c51] at H; exact absurd H (by simp)
                          rw [if_neg c48] at H; exact absurd H (by simp)
                        rw [if_neg c47] at H; exact absurd H (by simp)
  replace c4 := Bool.eq_false_iff.mpr c4; subst c4; have H1 : (some false) = some r := by rw [if_neg (show ¬ (false = true) by decide)] at H; exact H
  clear H; have H := H1; clear H1; obtain rfl := Option.some.inj H; go_enter Tryz.func5, Tryz.ntmps5; go_wp2_with (first | ((with_reducible refine gate_dst (N := 2) rfl ?_); (try (refine gate_guard (by rfl) ?_; dsimp only)); refine box_event ?hg (N := 2) ?hd (cs := #[.int .u8 a0_0, .int .i64 a0_1, .int .i64 a0_2, .int .i64 a0_3]) (t := 23) ?hr ?_; (case hd => rfl); (case hg => rfl); (case hr => first | (go_simp; done) | (go_simp; rfl)); intro gb351 hg w91 hbox hb; have n0_ := Aside0.mk (below_step (by exact phEy_2) hb); have n1_ := Aside0.mk (hbox); have n2_ := Aside0.mk ((by rw [hg]; exact (below_size (by exact phEy_2)) : w.heap.size ≤ gb351)); have n3_ := Aside0.mk ((by rw [hg]; exact (below_size (by exact phEy_2)) : w.heap.size ≤ gb351)); clear HB; have HB := n0_; have BK351 := n1_; have GW351 := n2_; have GE351 := n3_; clear n0_ n1_ n2_ n3_; clear hb hbox hg) | ((with_reducible refine gate_callee (f := 13) rfl ?_); refine goesL_ (some 20) rfl rfl Tryz.func13 (by kernel_rfl) rfl #[] rfl (by exact phEy_4) ?_; (with_reducible refine (abacuslaw15_awake.calls k  false _ A3.out).mono ?_); rintro e w92 ⟨rfl, hb⟩; refine ⟨_, rfl, ?_⟩; have n0_ := Aside0.mk (blk_below (g := gb351) (o := .cells #[.int .u8 a0_0, .int .i64 a0_1, .int .i64 a0_2, .int .i64 a0_3] 23 (0, 0)) (by exact phEy_3) hb); have n1_ := Aside0.mk (below_step (by exact phEy_1) hb); clear BK351; clear HB; have BK351 := n0_; have HB := n1_; clear n0_ n1_; (try clear hb); (try clear hb2); (try clear hk); (try clear hi))); go_ret; exact ⟨by exact phEy_8, by exact phEy_1⟩

end Go.Proofs.YtgbjojokjekmhaaGreatDoor.PXE
