/- The machine's side of a law, printed by a program of this session out of the translation; conditions: none. -/
import Derived.Test.YtgbjojokjekmhaaGreatDoorPXCx0
import Derived.Test.YtgbjojokjekmhaaGreatDoorPXCx1
import Derived.Test.YtgbjojokjekmhaaGreatDoorPXCx2
import Derived.Test.YtgbjojokjekmhaaGreatDoorPXCx3
import Derived.Test.YtgbjojokjekmhaaGreatDoorPXCx4
import Derived.Test.YtgbjojokjekmhaaGreatDoorPXCx5
import Derived.Test.YtgbjojokjekmhaaGreatDoorPXCx6
import Derived.Test.YtgbjojokjekmhaaGreatDoorPXCx7
import Derived.Test.YtgbjojokjekmhaaGreatDoorPXCx8D
import Derived.Test.YtgbjojokjekmhaaGreatDoorPXCx8
import Derived.Test.YtgbjojokjekmhaaGreatDoorPXCx9
import Derived.Test.YtgbjojokjekmhaaGreatDoorPXCx10
import Derived.Test.YtgbjojokjekmhaaGreatDoorPXCx11
import Derived.Test.YtgbjojokjekmhaaGreatDoorPXCx12
import Derived.Test.YtgbjojokjekmhaaGreatDoorPXCx13
import Derived.Test.YtgbjojokjekmhaaGreatDoorLowerW
namespace Go.Proofs.YtgbjojokjekmhaaGreatDoor.PXK
open Go.Proofs.YtgbjojokjekmhaaGreatDoor Go.Proofs.YtgbjojokjekmhaaGreatDoor.PXC
open Go.RowKit Go.Proofs.YtgbjojokjekmhaaGreatDoorW.PrintWords Go.Proofs.YtgbjojokjekmhaaGreatDoorW.PrintLast Go.Proofs.YtgbjojokjekmhaaGreatDoorW.PrintMore
attribute [local go_sem] max2_int min2_int max_two min_two max_three min_three max_four min_four   -- for this text's walks alone
set_option linter.unusedVariables false
set_option linter.unusedSimpArgs false


theorem phKy_1 {P : Prop} (h : P := by first | rfl | (simp; done)) : P := h
theorem phKy_2 {P : Prop} (h : P := by (with_reducible repeat (first | refine blk_drewN ?_ _ | refine blk_drew ?_ | refine blk_alloc ?_ _)); exact BK327.out) : P := h
theorem phKy_3 {P : Prop} (h : P := by repeat (first | (with_reducible first | exact HB.out | apply below_alloc | apply pw_below_drewN | apply below_drew1 | refine below_set ?_ GE327.out | refine below_set ?_ GE332.out | refine below_set ?_ GE333.out) | exact HB.out)) : P := h
theorem phKy_4 {P : Prop} (h : P := by repeat (first | (with_reducible first | exact HB.out | apply below_alloc | apply pw_below_drewN | apply below_drew1 | refine below_set ?_ GE327.out) | exact HB.out)) : P := h
theorem phKy_5 {P : Prop} (h : P := by first | (with_reducible assumption) | assumption) : P := h
theorem phKy_6 {P : Prop} (h : P := by repeat (first | (with_reducible first | exact HB.out | apply below_alloc | apply pw_below_drewN | apply below_drew1) | exact HB.out)) : P := h
theorem phKy_7 {P : Prop} (h : P := by (try simp only [List.map_toArray, List.map_cons, List.map_nil]); first | done | rfl | (simp only [List.length_drop, List.length_take]; rfl)) : P := h
theorem phKy_8 {P : Prop} (h : P := by (with_reducible repeat (first | refine blk_drewN ?_ _ | refine blk_drew ?_ | refine blk_alloc ?_ _)); exact BK332.out) : P := h
theorem phKy_9 {P : Prop} (h : P := by (with_reducible repeat (first | refine blk_drewN ?_ _ | refine blk_drew ?_ | refine blk_alloc ?_ _)); exact BK333.out) : P := h
theorem phKy_10 {P : Prop} (h : P := by first | rfl | (simp [errW_none, errW_some] <;> rfl) | (simp only [append_nothing]; done) | (simp only [append_nothing]; rfl) | (simp [*, errW_none, errW_some] <;> rfl)) : P := h
theorem phKy_11 {P : Prop} (h : P := by (with_reducible repeat (first | refine blk_drewN ?_ _ | refine blk_drew ?_ | refine blk_alloc ?_ _)); refine blk_far ?_ NB327_332.out _; (with_reducible repeat (first | refine blk_drewN ?_ _ | refine blk_drew ?_ | refine blk_alloc ?_ _)); refine blk_far ?_ NB327_332.out _; (with_reducible repeat (first | refine blk_drewN ?_ _ | refine blk_drew ?_ | refine blk_alloc ?_ _)); refine blk_far ?_ NB327_332.out _; (with_reducible repeat (first | refine blk_drewN ?_ _ | refine blk_drew ?_ | refine blk_alloc ?_ _)); refine blk_far ?_ NB327_332.out _; (with_reducible repeat (first | refine blk_drewN ?_ _ | refine blk_drew ?_ | refine blk_alloc ?_ _)); exact BK327.out) : P := h
theorem phKy_12 {P : Prop} (h : P := by (with_reducible repeat (first | refine blk_drewN ?_ _ | refine blk_drew ?_ | refine blk_alloc ?_ _)); refine blk_put (cs := #[.int .u8 a0_0, .int .i64 a0_1, .int .i64 a0_2, .int .i64 0]) ?_ 3 _ (by first | rfl | (simp; done)); (with_reducible repeat (first | refine blk_drewN ?_ _ | refine blk_drew ?_ | refine blk_alloc ?_ _)); refine blk_put (cs := #[.int .u8 a0_0, .int .i64 a0_1, .int .i64 0, .int .i64 0]) ?_ 2 _ (by first | rfl | (simp; done)); (with_reducible repeat (first | refine blk_drewN ?_ _ | refine blk_drew ?_ | refine blk_alloc ?_ _)); refine blk_put (cs := #[.int .u8 a0_0, .int .i64 0, .int .i64 0, .int .i64 0]) ?_ 1 _ (by first | rfl | (simp; done)); (with_reducible repeat (first | refine blk_drewN ?_ _ | refine blk_drew ?_ | refine blk_alloc ?_ _)); refine blk_put (cs := #[.int .u8 0, .int .i64 0, .int .i64 0, .int .i64 0]) ?_ 0 _ (by first | rfl | (simp; done)); (with_reducible repeat (first | refine blk_drewN ?_ _ | refine blk_drew ?_ | refine blk_alloc ?_ _)); exact BK332.out) : P := h
theorem phKy_13 {P : Prop} (h : P := by repeat (first | (with_reducible first | exact HB.out | apply below_alloc | apply pw_below_drewN | apply below_drew1 | refine below_set ?_ GE327.out | refine below_set ?_ GE332.out) | exact HB.out)) : P := h
theorem phKy_14 {P : Prop} (h : P := by first | (with_reducible exact HG) | exact ⟨GW.below HG.out (by repeat (first | (with_reducible first | exact HB.out | apply below_alloc | apply pw_below_drewN | apply below_drew1) | (with_reducible refine below_set ?_ (Aside0.out (by assumption))) | exact HB.out | exact Below.refl _ _))⟩ | exact ⟨GW.drewN HG.out _⟩ | exact ⟨GW.drew HG.out⟩ | exact ⟨GW.drewN (GW.drewN HG.out _) _⟩ | exact ⟨GW.drewN (GW.drew HG.out) _⟩) : P := h
theorem phKy_15 {P : Prop} (h : P := by repeat (first | (with_reducible first | exact HB.out | apply below_alloc | apply pw_below_drewN | apply below_drew1) | (with_reducible refine below_set ?_ (Aside0.out (by assumption))) | exact HB.out | exact Below.refl _ _)) : P := h
/-! ### abacuslaw15_lowered: function 18 -/
def abacuslaw15_lowered.f (a0 : ByteArray) : Option (ByteArray) := if a0.size ≤ 140737488355328 then some (Num.S (lowL a0.data.toList)) else none
theorem abacuslaw15_lowered.calls (a0 : ByteArray) (r : ByteArray) (w : World) (h : abacuslaw15_lowered.f a0 = some r) (HG : Aside0 (GW w) := by exact phKy_14) :
    Calls Tryz.prog 18 #[.string a0] w fun e w' => e = .returned (.string r) ∧ Below w.heap.size w w' := by
  unfold abacuslaw15_lowered.f at h
  split at h
  · rename_i h0
    have hr := Option.some.inj h
    rw [← hr]
    exact lowered_walk a0 w h0
  · cases h

/-! ### abacuslaw15_PointCapitals: function 4 -/
mutual
def abacuslaw15_PointCapitals.j0 : Nat → Int → Int → Int → Int → Int → Int → Int → Int → Int → Int → Option (Bool)
  | 0, _, _, _, _, _, _, _, _, _, _ => none
  | k + 1, x1, x6, x333000, x333001, x333002, x333003, x334000, x334001, x334002, x334003 => (point_Render.f k x333000 x333001 x333002 x333003 x1).bind fun bt334 => ((point_Render.f k x334000 x334001 x334002 x334003 x1).bind fun bt336 => ((point_Special.f k x334000 x334001 x334002 x334003 x1).bind fun bt338 => (if bt334.2 = x6 then (if bt336.2 = x6 then (if bt338.2.2 = x6 then ((abacuslaw15_lowered.f bt336.1).bind fun t341 => (abacuslaw15_PointCapitals.j1 k x1 x6 bt336.1 bt338.1 bt338.2.1 (bt334.1.toList != t341.toList))) else (abacuslaw15_PointCapitals.j1 k x1 x6 bt336.1 bt338.1 bt338.2.1 true)) else (abacuslaw15_PointCapitals.j1 k x1 x6 bt336.1 bt338.1 bt338.2.1 true)) else (abacuslaw15_PointCapitals.j1 k x1 x6 bt336.1 bt338.1 bt338.2.1 true))))
def abacuslaw15_PointCapitals.j1 : Nat → Int → Int → ByteArray → ByteArray → Bool → Bool → Option (Bool)
  | 0, _, _, _, _, _, _ => none
  | k + 1, x1, x6, x13, x15, x16, x87 => if x87 = true then (some false) else (abacuslaw15_PointCapitals.l0 k x1 x6 x13 x15 x16 0)
def abacuslaw15_PointCapitals.l0 : Nat → Int → Int → ByteArray → ByteArray → Bool → Int → Option (Bool)
  | 0, _, _, _, _, _, _ => none
  | k + 1, x1, x6, x13, x15, x16, x18 => if x18 < (x13.size : Int) then (if 0 ≤ x18 then (if (bt x13 x18) ≥ 97 then (if (bt x13 x18) ≤ 122 then (some false) else (abacuslaw15_PointCapitals.l0 k x1 x6 x13 x15 x16 (wrap64 (x18 + 1)))) else (abacuslaw15_PointCapitals.l0 k x1 x6 x13 x15 x16 (wrap64 (x18 + 1)))) else (none)) else (if x6 = 0 then ((abacuslaw15_finite.f x1).bind fun t342 => (if t342 = true then (if x16 = true then (some false) else (some (x15.toList == ([] : List UInt8)))) else (if x16 = true then (some (x15.toList == x13.toList)) else (some false)))) else (if x16 = true then (some false) else (some (x15.toList == ([] : List UInt8)))))
end
def abacuslaw15_PointCapitals.f (k : Nat) (a0_0 : Int) (a0_1 : Int) (a0_2 : Int) (a0_3 : Int) (a1 : Int) : Option (Bool) := (abacuslaw15_awake.f k).bind fun t328 => (if t328 = true then ((abacuslaw15_wrong.f k a0_0 a0_1 a0_2 a0_3).bind fun t329 => (if t329 = 140 then ((point_Render.f k a0_0 a0_1 a0_2 a0_3 a1).bind fun bt330 => (some (bt330.2 == t329))) else (if a0_0 ≥ 97 then (abacuslaw15_PointCapitals.j0 k a1 t329 a0_0 a0_1 a0_2 a0_3 ((((a0_0 - 97) % 256) + 65) % 256) a0_1 a0_2 a0_3) else (abacuslaw15_PointCapitals.j0 k a1 t329 ((((a0_0 - 65) % 256) + 97) % 256) a0_1 a0_2 a0_3 a0_0 a0_1 a0_2 a0_3)))) else (some false))
theorem abacuslaw15_PointCapitals.mono_l : ∀ k, (∀ y0 y1 y2 y3 y4 y5 y6 y7 y8 y9, LeO (abacuslaw15_PointCapitals.j0 k y0 y1 y2 y3 y4 y5 y6 y7 y8 y9) (abacuslaw15_PointCapitals.j0 (k + 1) y0 y1 y2 y3 y4 y5 y6 y7 y8 y9)) ∧ (∀ y0 y1 y2 y3 y4 y5, LeO (abacuslaw15_PointCapitals.j1 k y0 y1 y2 y3 y4 y5) (abacuslaw15_PointCapitals.j1 (k + 1) y0 y1 y2 y3 y4 y5)) ∧ (∀ y0 y1 y2 y3 y4 y5, LeO (abacuslaw15_PointCapitals.l0 k y0 y1 y2 y3 y4 y5) (abacuslaw15_PointCapitals.l0 (k + 1) y0 y1 y2 y3 y4 y5))
  | 0 => ⟨fun _ _ _ _ _ _ _ _ _ _ r h => by simp [abacuslaw15_PointCapitals.j0] at h, fun _ _ _ _ _ _ r h => by simp [abacuslaw15_PointCapitals.j1] at h, fun _ _ _ _ _ _ r h => by simp [abacuslaw15_PointCapitals.l0] at h⟩
  | k + 1 => by
    obtain ⟨ih0, ih1, ih2⟩ := abacuslaw15_PointCapitals.mono_l k
    refine ⟨?_, ?_, ?_⟩
    · intro y0 y1 y2 y3 y4 y5 y6 y7 y8 y9
      unfold abacuslaw15_PointCapitals.j0
      repeat' first
      | (with_reducible exact ih0 _ _ _ _ _ _ _ _ _ _)
      | (with_reducible exact ih1 _ _ _ _ _ _)
      | (with_reducible exact ih2 _ _ _ _ _ _)
      | (with_reducible exact abacuslaw15_awake.mono _)
      | (with_reducible exact abacuslaw15_wrong.mono _ _ _ _ _)
      | (with_reducible exact point_Render.mono _ _ _ _ _ _)
      | (with_reducible exact point_Special.mono _ _ _ _ _ _)
      | (with_reducible exact LeO.refl _)
      | (with_reducible exact LeO.none _)
      | (with_reducible refine LeO.ite ?_ ?_)
      | (with_reducible refine LeO.bind ?_ (fun _ => ?_))
      | exact ih0 _ _ _ _ _ _ _ _ _ _
      | exact ih1 _ _ _ _ _ _
      | exact ih2 _ _ _ _ _ _
      | exact abacuslaw15_awake.mono _
      | exact abacuslaw15_wrong.mono _ _ _ _ _
      | exact point_Render.mono _ _ _ _ _ _
      | exact point_Special.mono _ _ _ _ _ _
      | exact LeO.none _
      | refine LeO.ite ?_ ?_
      | refine LeO.bind ?_ (fun _ => ?_)
    · intro y0 y1 y2 y3 y4 y5
      unfold abacuslaw15_PointCapitals.j1
      repeat' first
      | (with_reducible exact ih0 _ _ _ _ _ _ _ _ _ _)
      | (with_reducible exact ih1 _ _ _ _ _ _)
      | (with_reducible exact ih2 _ _ _ _ _ _)
      | (with_reducible exact abacuslaw15_awake.mono _)
      | (with_reducible exact abacuslaw15_wrong.mono _ _ _ _ _)
      | (with_reducible exact point_Render.mono _ _ _ _ _ _)
      | (with_reducible exact point_Special.mono _ _ _ _ _ _)
      | (with_reducible exact LeO.refl _)
      | (with_reducible exact LeO.none _)
      | (with_reducible refine LeO.ite ?_ ?_)
      | (with_reducible refine LeO.bind ?_ (fun _ => ?_))
      | exact ih0 _ _ _ _ _ _ _ _ _ _
      | exact ih1 _ _ _ _ _ _
      | exact ih2 _ _ _ _ _ _
      | exact abacuslaw15_awake.mono _
      | exact abacuslaw15_wrong.mono _ _ _ _ _
      | exact point_Render.mono _ _ _ _ _ _
      | exact point_Special.mono _ _ _ _ _ _
      | exact LeO.none _
      | refine LeO.ite ?_ ?_
      | refine LeO.bind ?_ (fun _ => ?_)
    · intro y0 y1 y2 y3 y4 y5
      unfold abacuslaw15_PointCapitals.l0
      repeat' first
      | (with_reducible exact ih0 _ _ _ _ _ _ _ _ _ _)
      | (with_reducible exact ih1 _ _ _ _ _ _)
      | (with_reducible exact ih2 _ _ _ _ _ _)
      | (with_reducible exact abacuslaw15_awake.mono _)
      | (with_reducible exact abacuslaw15_wrong.mono _ _ _ _ _)
      | (with_reducible exact point_Render.mono _ _ _ _ _ _)
      | (with_reducible exact point_Special.mono _ _ _ _ _ _)
      | (with_reducible exact LeO.refl _)
      | (with_reducible exact LeO.none _)
      | (with_reducible refine LeO.ite ?_ ?_)
      | (with_reducible refine LeO.bind ?_ (fun _ => ?_))
      | exact ih0 _ _ _ _ _ _ _ _ _ _
      | exact ih1 _ _ _ _ _ _
      | exact ih2 _ _ _ _ _ _
      | exact abacuslaw15_awake.mono _
      | exact abacuslaw15_wrong.mono _ _ _ _ _
      | exact point_Render.mono _ _ _ _ _ _
      | exact point_Special.mono _ _ _ _ _ _
      | exact LeO.none _
      | refine LeO.ite ?_ ?_
      | refine LeO.bind ?_ (fun _ => ?_)
theorem abacuslaw15_PointCapitals.mono : ∀ a0 a1 a2 a3 a4 k, LeO (abacuslaw15_PointCapitals.f k a0 a1 a2 a3 a4) (abacuslaw15_PointCapitals.f (k + 1) a0 a1 a2 a3 a4) := by
  intro a0 a1 a2 a3 a4 k
  obtain ⟨ih0, ih1, ih2⟩ := abacuslaw15_PointCapitals.mono_l k
  unfold abacuslaw15_PointCapitals.f
  repeat' first
      | (with_reducible exact ih0 _ _ _ _ _ _ _ _ _ _)
      | (with_reducible exact ih1 _ _ _ _ _ _)
      | (with_reducible exact ih2 _ _ _ _ _ _)
      | (with_reducible exact abacuslaw15_awake.mono _)
      | (with_reducible exact abacuslaw15_wrong.mono _ _ _ _ _)
      | (with_reducible exact point_Render.mono _ _ _ _ _ _)
      | (with_reducible exact point_Special.mono _ _ _ _ _ _)
      | (with_reducible exact LeO.refl _)
      | (with_reducible exact LeO.none _)
      | (with_reducible refine LeO.ite ?_ ?_)
      | (with_reducible refine LeO.bind ?_ (fun _ => ?_))
      | exact ih0 _ _ _ _ _ _ _ _ _ _
      | exact ih1 _ _ _ _ _ _
      | exact ih2 _ _ _ _ _ _
      | exact abacuslaw15_awake.mono _
      | exact abacuslaw15_wrong.mono _ _ _ _ _
      | exact point_Render.mono _ _ _ _ _ _
      | exact point_Special.mono _ _ _ _ _ _
      | exact LeO.none _
      | refine LeO.ite ?_ ?_
      | refine LeO.bind ?_ (fun _ => ?_)
theorem abacuslaw15_PointCapitals.w1 {P : Prop} (h : P := by
  go_wp2
  go_meet
  case rel => exact ⟨_, (true), (by first | rfl | (simp; done) | (simp [*]; done)), H', ⟨by have := HJ13.out; first | omega | exact Nat.le_refl _⟩, ⟨by exact phKy_2⟩, ⟨by exact phKy_8⟩, ⟨by exact phKy_9⟩, ⟨by exact phKy_3⟩⟩) : P := h
theorem abacuslaw15_PointCapitals.w2 {P : Prop} (h : P := by
  go_wp2
  go_ret
  exact ⟨by exact phKy_10, by exact phKy_3⟩) : P := h
theorem abacuslaw15_PointCapitals.w3 {P : Prop} (h : P := by
  go_wp2
  go_roundg k3
  case measure => have := HJ13.out; have := HJ42.out; have := HK3.out; omega
  case rel => exact ⟨(wrap64 (x18_3 + 1)), (by first | rfl | (simp; done) | (simp [*]; done)), H', ⟨by have := HJ13.out; have := HJ42.out; have := HK3.out; omega⟩, ⟨by exact phKy_2⟩, ⟨by exact phKy_8⟩, ⟨by exact phKy_9⟩, ⟨by exact phKy_3⟩⟩) : P := h
theorem abacuslaw15_PointCapitals.w4 {P : Prop} (h : P := by
  go_wp2_with (first | (go_at_call 16; (with_reducible refine (abacuslaw15_finite.calls a1 true _ A66.out).mono ?_); rintro e w' ⟨rfl, ⟨nd, rfl⟩⟩) | (go_at_call 16; (with_reducible refine (abacuslaw15_finite.calls a1 false _ A66.out).mono ?_); rintro e w' ⟨rfl, ⟨nd, rfl⟩⟩))
  go_ret
  exact ⟨by exact phKy_10, by exact phKy_3⟩) : P := h
set_option maxHeartbeats 8000000 in
set_option maxRecDepth 100000 in
theorem abacuslaw15_PointCapitals.calls (k : Nat) (a0_0 : Int) (a0_1 : Int) (a0_2 : Int) (a0_3 : Int) (a1 : Int) (r : Bool) (w : World) (h : abacuslaw15_PointCapitals.f k a0_0 a0_1 a0_2 a0_3 a1 = some r) (HG : Aside0 (GW w) := by exact phKy_14) :
    Calls Tryz.prog 4 #[.agg #[.int .u8 a0_0, .int .i64 a0_1, .int .i64 a0_2, .int .i64 a0_3], .int .u64 a1] w fun e w' => e = .returned (.bool r) ∧ Below w.heap.size w w' := by
  have hu23 := Tryz.underlying23
  have HB := Aside0.mk (Below.refl w.heap.size w)
  have H : ((abacuslaw15_awake.f k).bind fun t328 => (if t328 = true then ((abacuslaw15_wrong.f k a0_0 a0_1 a0_2 a0_3).bind fun t329 => (if t329 = 140 then ((point_Render.f k a0_0 a0_1 a0_2 a0_3 a1).bind fun bt330 => (some (bt330.2 == t329))) else (if a0_0 ≥ 97 then (abacuslaw15_PointCapitals.j0 k a1 t329 a0_0 a0_1 a0_2 a0_3 ((((a0_0 - 97) % 256) + 65) % 256) a0_1 a0_2 a0_3) else (abacuslaw15_PointCapitals.j0 k a1 t329 ((((a0_0 - 65) % 256) + 97) % 256) a0_1 a0_2 a0_3 a0_0 a0_1 a0_2 a0_3)))) else (some false))) = some r := h
  clear h
  replace H := Option.bind_eq_some_iff.mp H
  obtain ⟨t328, A30, H⟩ := H
  try dsimp only at H
  have A3 := Aside0.mk A30
  clear A30
  by_cases c4 : t328 = true
  · subst c4
    have H1 : ((abacuslaw15_wrong.f k a0_0 a0_1 a0_2 a0_3).bind fun t329 => (if t329 = 140 then ((point_Render.f k a0_0 a0_1 a0_2 a0_3 a1).bind fun bt330 => (some (bt330.2 == t329))) else (if a0_0 ≥ 97 then (abacuslaw15_PointCapitals.j0 k a1 t329 a0_0 a0_1 a0_2 a0_3 ((((a0_0 - 97) % 256) + 65) % 256) a0_1 a0_2 a0_3) else (abacuslaw15_PointCapitals.j0 k a1 t329 ((((a0_0 - 65) % 256) + 97) % 256) a0_1 a0_2 a0_3 a0_0 a0_1 a0_2 a0_3)))) = some r := by rw [if_pos rfl] at H; exact H
    clear H
    have H := H1
    clear H1
    replace H := Option.bind_eq_some_iff.mp H
    obtain ⟨t329, A50, H⟩ := H
    try dsimp only at H
    have A5 := Aside0.mk A50
    clear A50
    by_cases c6 : t329 = 140
    · rw [if_pos c6] at H
      have c6b0 : (t329 == 140) = true := beq_iff_eq.mpr c6
      have c6b1 : (t329 != 140) = false := bne_eq_false_iff_eq.mpr c6
      clear c6
      replace H := Option.bind_eq_some_iff.mp H
      obtain ⟨⟨t330, t331⟩, A70, H⟩ := H
      try dsimp only at H
      have A7 := Aside0.mk A70
      clear A70
      obtain rfl := Option.some.inj H
      go_enter Tryz.func4, Tryz.ntmps4
      go_wp2_with (first | ((with_reducible refine gate_dst (N := 2) rfl ?_); refine box_event ?hg (N := 2) ?hd (cs := #[.int .u8 a0_0, .int .i64 a0_1, .int .i64 a0_2, .int .i64 a0_3]) (t := 23) ?hr ?_; (case hd => rfl); (case hg => rfl); (case hr => first | (go_simp; done) | (go_simp; rfl)); intro gb327 hg w8 hbox hb; have n0_ := Aside0.mk (below_step (by exact phKy_6) hb); have n1_ := Aside0.mk (hbox); have n2_ := Aside0.mk ((by rw [hg]; exact (below_size (by exact phKy_6)) : w.heap.size ≤ gb327)); have n3_ := Aside0.mk ((by rw [hg]; exact (below_size (by exact phKy_6)) : w.heap.size ≤ gb327)); clear HB; have HB := n0_; have BK327 := n1_; have GW327 := n2_; have GE327 := n3_; clear n0_ n1_ n2_ n3_; clear hb hbox hg) | ((with_reducible refine gate_callee (f := 13) rfl ?_); refine goesL_ (some 19) rfl rfl Tryz.func13 (by kernel_rfl) rfl #[] rfl (by exact phKy_7) ?_; (with_reducible refine (abacuslaw15_awake.calls k  true _ A3.out).mono ?_); rintro e w9 ⟨rfl, hb⟩; refine ⟨_, rfl, ?_⟩; have n0_ := Aside0.mk (blk_below (g := gb327) (o := .cells #[.int .u8 a0_0, .int .i64 a0_1, .int .i64 a0_2, .int .i64 a0_3] 23 (0, 0)) (by exact phKy_2) hb); have n1_ := Aside0.mk (below_step (by exact phKy_4) hb); clear BK327; clear HB; have BK327 := n0_; have HB := n1_; clear n0_ n1_; (try clear hb); (try clear hb2); (try clear hk); (try clear hi); have hcz10_0 : w9.cell? ⟨gb327, 0, none⟩ = some (.int .u8 a0_0) := (blk_cell BK327.out 0).trans rfl; have hcz10_1 : w9.cell? ⟨gb327, 1, none⟩ = some (.int .i64 a0_1) := (blk_cell BK327.out 1).trans rfl; have hcz10_2 : w9.cell? ⟨gb327, 2, none⟩ = some (.int .i64 a0_2) := (blk_cell BK327.out 2).trans rfl; have hcz10_3 : w9.cell? ⟨gb327, 3, none⟩ = some (.int .i64 a0_3) := (blk_cell BK327.out 3).trans rfl; have hfz10_0 := blk_frozen BK327.out 0; have hfz10_1 := blk_frozen BK327.out 1; have hfz10_2 := blk_frozen BK327.out 2; have hfz10_3 := blk_frozen BK327.out 3) | ((with_reducible refine gate_callee (f := 15) rfl ?_); refine goesL_ (some 23) rfl rfl Tryz.func15 (by kernel_rfl) rfl #[.agg #[.int .u8 a0_0, .int .i64 a0_1, .int .i64 a0_2, .int .i64 a0_3]] rfl (by exact phKy_7) ?_; (with_reducible refine (abacuslaw15_wrong.calls k a0_0 a0_1 a0_2 a0_3 t329 _ A5.out).mono ?_); rintro e w11 ⟨rfl, hb⟩; refine ⟨_, rfl, ?_⟩; have n0_ := Aside0.mk (blk_below (g := gb327) (o := .cells #[.int .u8 a0_0, .int .i64 a0_1, .int .i64 a0_2, .int .i64 a0_3] 23 (0, 0)) (by exact phKy_2) hb); have n1_ := Aside0.mk (below_step (by exact phKy_4) hb); clear BK327; clear HB; have BK327 := n0_; have HB := n1_; clear n0_ n1_; (try clear hb); (try clear hb2); (try clear hk); (try clear hi); have hcz12_0 : w11.cell? ⟨gb327, 0, none⟩ = some (.int .u8 a0_0) := (blk_cell BK327.out 0).trans rfl; have hcz12_1 : w11.cell? ⟨gb327, 1, none⟩ = some (.int .i64 a0_1) := (blk_cell BK327.out 1).trans rfl; have hcz12_2 : w11.cell? ⟨gb327, 2, none⟩ = some (.int .i64 a0_2) := (blk_cell BK327.out 2).trans rfl; have hcz12_3 : w11.cell? ⟨gb327, 3, none⟩ = some (.int .i64 a0_3) := (blk_cell BK327.out 3).trans rfl; have hfz12_0 := blk_frozen BK327.out 0; have hfz12_1 := blk_frozen BK327.out 1; have hfz12_2 := blk_frozen BK327.out 2; have hfz12_3 := blk_frozen BK327.out 3) | ((with_reducible refine gate_callee (f := 14) rfl ?_); refine goesL_ (some 29) rfl rfl Tryz.func14 (by kernel_rfl) rfl #[.agg #[.int .u8 a0_0, .int .i64 a0_1, .int .i64 a0_2, .int .i64 a0_3], .int .u64 a1] rfl (by exact phKy_7) ?_; (with_reducible refine (point_Render.calls k a0_0 a0_1 a0_2 a0_3 a1 t330 t331 _ A7.out).mono ?_); rintro e w13 ⟨rfl, hb⟩; refine ⟨_, rfl, ?_⟩; have n0_ := Aside0.mk (blk_below (g := gb327) (o := .cells #[.int .u8 a0_0, .int .i64 a0_1, .int .i64 a0_2, .int .i64 a0_3] 23 (0, 0)) (by exact phKy_2) hb); have n1_ := Aside0.mk (below_step (by exact phKy_4) hb); clear BK327; clear HB; have BK327 := n0_; have HB := n1_; clear n0_ n1_; (try clear hb); (try clear hb2); (try clear hk); (try clear hi)))
      go_ret
      exact ⟨by exact phKy_10, by exact phKy_4⟩
    · rw [if_neg c6] at H
      have c6b0 : (t329 == 140) = false := beq_eq_false_iff_ne.mpr c6
      have c6b1 : (t329 != 140) = true := bne_iff_ne.mpr c6
      have HC14 := Aside0.mk H
      clear H
      go_enter Tryz.func4, Tryz.ntmps4
      go_upto_if 39 with (first | ((with_reducible refine gate_dst (N := 2) rfl ?_); refine box_event ?hg (N := 2) ?hd (cs := #[.int .u8 a0_0, .int .i64 a0_1, .int .i64 a0_2, .int .i64 a0_3]) (t := 23) ?hr ?_; (case hd => rfl); (case hg => rfl); (case hr => first | (go_simp; done) | (go_simp; rfl)); intro gb327 hg w15 hbox hb; have n0_ := Aside0.mk (below_step (by exact phKy_6) hb); have n1_ := Aside0.mk (hbox); have n2_ := Aside0.mk ((by rw [hg]; exact (below_size (by exact phKy_6)) : w.heap.size ≤ gb327)); have n3_ := Aside0.mk ((by rw [hg]; exact (below_size (by exact phKy_6)) : w.heap.size ≤ gb327)); clear HB; have HB := n0_; have BK327 := n1_; have GW327 := n2_; have GE327 := n3_; clear n0_ n1_ n2_ n3_; clear hb hbox hg) | ((with_reducible refine gate_callee (f := 13) rfl ?_); refine goesL_ (some 19) rfl rfl Tryz.func13 (by kernel_rfl) rfl #[] rfl (by exact phKy_7) ?_; (with_reducible refine (abacuslaw15_awake.calls k  true _ A3.out).mono ?_); rintro e w16 ⟨rfl, hb⟩; refine ⟨_, rfl, ?_⟩; have n0_ := Aside0.mk (blk_below (g := gb327) (o := .cells #[.int .u8 a0_0, .int .i64 a0_1, .int .i64 a0_2, .int .i64 a0_3] 23 (0, 0)) (by exact phKy_2) hb); have n1_ := Aside0.mk (below_step (by exact phKy_4) hb); clear BK327; clear HB; have BK327 := n0_; have HB := n1_; clear n0_ n1_; (try clear hb); (try clear hb2); (try clear hk); (try clear hi); have hcz17_0 : w16.cell? ⟨gb327, 0, none⟩ = some (.int .u8 a0_0) := (blk_cell BK327.out 0).trans rfl; have hcz17_1 : w16.cell? ⟨gb327, 1, none⟩ = some (.int .i64 a0_1) := (blk_cell BK327.out 1).trans rfl; have hcz17_2 : w16.cell? ⟨gb327, 2, none⟩ = some (.int .i64 a0_2) := (blk_cell BK327.out 2).trans rfl; have hcz17_3 : w16.cell? ⟨gb327, 3, none⟩ = some (.int .i64 a0_3) := (blk_cell BK327.out 3).trans rfl; have hfz17_0 := blk_frozen BK327.out 0; have hfz17_1 := blk_frozen BK327.out 1; have hfz17_2 := blk_frozen BK327.out 2; have hfz17_3 := blk_frozen BK327.out 3) | ((with_reducible refine gate_callee (f := 15) rfl ?_); refine goesL_ (some 23) rfl rfl Tryz.func15 (by kernel_rfl) rfl #[.agg #[.int .u8 a0_0, .int .i64 a0_1, .int .i64 a0_2, .int .i64 a0_3]] rfl (by exact phKy_7) ?_; (with_reducible refine (abacuslaw15_wrong.calls k a0_0 a0_1 a0_2 a0_3 t329 _ A5.out).mono ?_); rintro e w18 ⟨rfl, hb⟩; refine ⟨_, rfl, ?_⟩; have n0_ := Aside0.mk (blk_below (g := gb327) (o := .cells #[.int .u8 a0_0, .int .i64 a0_1, .int .i64 a0_2, .int .i64 a0_3] 23 (0, 0)) (by exact phKy_2) hb); have n1_ := Aside0.mk (below_step (by exact phKy_4) hb); clear BK327; clear HB; have BK327 := n0_; have HB := n1_; clear n0_ n1_; (try clear hb); (try clear hb2); (try clear hk); (try clear hi); have hcz19_0 : w18.cell? ⟨gb327, 0, none⟩ = some (.int .u8 a0_0) := (blk_cell BK327.out 0).trans rfl; have hcz19_1 : w18.cell? ⟨gb327, 1, none⟩ = some (.int .i64 a0_1) := (blk_cell BK327.out 1).trans rfl; have hcz19_2 : w18.cell? ⟨gb327, 2, none⟩ = some (.int .i64 a0_2) := (blk_cell BK327.out 2).trans rfl; have hcz19_3 : w18.cell? ⟨gb327, 3, none⟩ = some (.int .i64 a0_3) := (blk_cell BK327.out 3).trans rfl; have hfz19_0 := blk_frozen BK327.out 0; have hfz19_1 := blk_frozen BK327.out 1; have hfz19_2 := blk_frozen BK327.out 2; have hfz19_3 := blk_frozen BK327.out 3) | ((with_reducible refine gate_dst (N := 9) rfl ?_); refine box_event ?hg (N := 9) ?hd (cs := #[.int .u8 0, .int .i64 0, .int .i64 0, .int .i64 0]) (t := 23) ?hr ?_; (case hd => rfl); (case hg => rfl); (case hr => first | (go_simp; done) | (go_simp; rfl)); intro gb332 hg w20 hbox hb; have n0_ := Aside0.mk (blk_below (g := gb327) (o := .cells #[.int .u8 a0_0, .int .i64 a0_1, .int .i64 a0_2, .int .i64 a0_3] 23 (0, 0)) (by exact phKy_2) hb); have n1_ := Aside0.mk (below_step (by exact phKy_4) hb); have n2_ := Aside0.mk (hbox); have n3_ := Aside0.mk ((by rw [hg]; exact (below_size (by exact phKy_4)) : w.heap.size ≤ gb332)); have n4_ := Aside0.mk ((by rw [hg]; exact (below_size (by exact phKy_4)) : w.heap.size ≤ gb332)); have n5_ := Aside0.mk ((by rw [hg]; exact Nat.ne_of_lt (blk_lt (g := gb327) (o := .cells #[.int .u8 a0_0, .int .i64 a0_1, .int .i64 a0_2, .int .i64 a0_3] 23 (0, 0)) (by exact phKy_2)) : gb327 ≠ gb332)); have n6_ := Aside0.mk ((by rw [hg]; exact Nat.ne_of_gt (blk_lt (g := gb327) (o := .cells #[.int .u8 a0_0, .int .i64 a0_1, .int .i64 a0_2, .int .i64 a0_3] 23 (0, 0)) (by exact phKy_2)) : gb332 ≠ gb327)); clear BK327; clear HB; have BK327 := n0_; have HB := n1_; have BK332 := n2_; have GW332 := n3_; have GE332 := n4_; have NB327_332 := n5_; have NB332_327 := n6_; clear n0_ n1_ n2_ n3_ n4_ n5_ n6_; clear hb hbox hg; have hnb21 := NB332_327.out; have hnc21 := NB327_332.out; have hcz22_0 : w20.cell? ⟨gb332, 0, none⟩ = some (.int .u8 0) := (blk_cell BK332.out 0).trans rfl; have hcz22_1 : w20.cell? ⟨gb332, 1, none⟩ = some (.int .i64 0) := (blk_cell BK332.out 1).trans rfl; have hcz22_2 : w20.cell? ⟨gb332, 2, none⟩ = some (.int .i64 0) := (blk_cell BK332.out 2).trans rfl; have hcz22_3 : w20.cell? ⟨gb332, 3, none⟩ = some (.int .i64 0) := (blk_cell BK332.out 3).trans rfl; have hfz22_0 := blk_frozen BK332.out 0; have hfz22_1 := blk_frozen BK332.out 1; have hfz22_2 := blk_frozen BK332.out 2; have hfz22_3 := blk_frozen BK332.out 3; have hcz23_0 : w20.cell? ⟨gb327, 0, none⟩ = some (.int .u8 a0_0) := (blk_cell BK327.out 0).trans rfl; have hcz23_1 : w20.cell? ⟨gb327, 1, none⟩ = some (.int .i64 a0_1) := (blk_cell BK327.out 1).trans rfl; have hcz23_2 : w20.cell? ⟨gb327, 2, none⟩ = some (.int .i64 a0_2) := (blk_cell BK327.out 2).trans rfl; have hcz23_3 : w20.cell? ⟨gb327, 3, none⟩ = some (.int .i64 a0_3) := (blk_cell BK327.out 3).trans rfl; have hfz23_0 := blk_frozen BK327.out 0; have hfz23_1 := blk_frozen BK327.out 1; have hfz23_2 := blk_frozen BK327.out 2; have hfz23_3 := blk_frozen BK327.out 3) | ((with_reducible refine gate_dst (N := 10) rfl ?_); refine box_event ?hg (N := 10) ?hd (cs := #[.int .u8 0, .int .i64 0, .int .i64 0, .int .i64 0]) (t := 23) ?hr ?_; (case hd => rfl); (case hg => rfl); (case hr => first | (go_simp; done) | (go_simp; rfl)); intro gb333 hg w24 hbox hb; have n0_ := Aside0.mk (blk_below (g := gb327) (o := .cells #[.int .u8 a0_0, .int .i64 a0_1, .int .i64 a0_2, .int .i64 a0_3] 23 (0, 0)) (by exact phKy_11) hb); have n1_ := Aside0.mk (blk_below (g := gb332) (o := .cells #[.int .u8 a0_0, .int .i64 a0_1, .int .i64 a0_2, .int .i64 a0_3] 23 (0, 0)) (by exact phKy_12) hb); have n2_ := Aside0.mk (below_step (by exact phKy_13) hb); have n3_ := Aside0.mk (hbox); have n4_ := Aside0.mk ((by rw [hg]; exact (below_size (by exact phKy_13)) : w.heap.size ≤ gb333)); have n5_ := Aside0.mk ((by rw [hg]; exact (below_size (by exact phKy_13)) : w.heap.size ≤ gb333)); have n6_ := Aside0.mk ((by rw [hg]; exact Nat.ne_of_lt (blk_lt (g := gb327) (o := .cells #[.int .u8 a0_0, .int .i64 a0_1, .int .i64 a0_2, .int .i64 a0_3] 23 (0, 0)) (by exact phKy_11)) : gb327 ≠ gb333)); have n7_ := Aside0.mk ((by rw [hg]; exact Nat.ne_of_gt (blk_lt (g := gb327) (o := .cells #[.int .u8 a0_0, .int .i64 a0_1, .int .i64 a0_2, .int .i64 a0_3] 23 (0, 0)) (by exact phKy_11)) : gb333 ≠ gb327)); have n8_ := Aside0.mk ((by rw [hg]; exact Nat.ne_of_lt (blk_lt (g := gb332) (o := .cells #[.int .u8 a0_0, .int .i64 a0_1, .int .i64 a0_2, .int .i64 a0_3] 23 (0, 0)) (by exact phKy_12)) : gb332 ≠ gb333)); have n9_ := Aside0.mk ((by rw [hg]; exact Nat.ne_of_gt (blk_lt (g := gb332) (o := .cells #[.int .u8 a0_0, .int .i64 a0_1, .int .i64 a0_2, .int .i64 a0_3] 23 (0, 0)) (by exact phKy_12)) : gb333 ≠ gb332)); clear BK327; clear BK332; clear HB; have BK327 := n0_; have BK332 := n1_; have HB := n2_; have BK333 := n3_; have GW333 := n4_; have GE333 := n5_; have NB327_333 := n6_; have NB333_327 := n7_; have NB332_333 := n8_; have NB333_332 := n9_; clear n0_ n1_ n2_ n3_ n4_ n5_ n6_ n7_ n8_ n9_; clear hb hbox hg; have hnb25 := NB333_327.out; have hnc25 := NB327_333.out; have hnb26 := NB333_332.out; have hnc26 := NB332_333.out; have hcz27_0 : w24.cell? ⟨gb333, 0, none⟩ = some (.int .u8 0) := (blk_cell BK333.out 0).trans rfl; have hcz27_1 : w24.cell? ⟨gb333, 1, none⟩ = some (.int .i64 0) := (blk_cell BK333.out 1).trans rfl; have hcz27_2 : w24.cell? ⟨gb333, 2, none⟩ = some (.int .i64 0) := (blk_cell BK333.out 2).trans rfl; have hcz27_3 : w24.cell? ⟨gb333, 3, none⟩ = some (.int .i64 0) := (blk_cell BK333.out 3).trans rfl; have hfz27_0 := blk_frozen BK333.out 0; have hfz27_1 := blk_frozen BK333.out 1; have hfz27_2 := blk_frozen BK333.out 2; have hfz27_3 := blk_frozen BK333.out 3; have hcz28_0 : w24.cell? ⟨gb327, 0, none⟩ = some (.int .u8 a0_0) := (blk_cell BK327.out 0).trans rfl; have hcz28_1 : w24.cell? ⟨gb327, 1, none⟩ = some (.int .i64 a0_1) := (blk_cell BK327.out 1).trans rfl; have hcz28_2 : w24.cell? ⟨gb327, 2, none⟩ = some (.int .i64 a0_2) := (blk_cell BK327.out 2).trans rfl; have hcz28_3 : w24.cell? ⟨gb327, 3, none⟩ = some (.int .i64 a0_3) := (blk_cell BK327.out 3).trans rfl; have hfz28_0 := blk_frozen BK327.out 0; have hfz28_1 := blk_frozen BK327.out 1; have hfz28_2 := blk_frozen BK327.out 2; have hfz28_3 := blk_frozen BK327.out 3))
      (try simp only [Act.put, List.setIfInBounds_toArray, List.set_cons_zero, List.set_cons_succ])
      go_cut [] (fun wc => ∃ (kq : Nat) (x333000_13 : Int) (x334000_13 : Int), Aside0 (abacuslaw15_PointCapitals.j0 kq a1 t329 x333000_13 a0_1 a0_2 a0_3 x334000_13 a0_1 a0_2 a0_3 = some r) ∧ Aside0 (kq ≤ k) ∧ Aside0 (wc.heap[gb327]? = some (.cells #[.int .u8 a0_0, .int .i64 a0_1, .int .i64 a0_2, .int .i64 a0_3] 23 (0, 0))) ∧ Aside0 (wc.heap[gb332]? = some (.cells #[.int .u8 x333000_13, .int .i64 a0_1, .int .i64 a0_2, .int .i64 a0_3] 23 (0, 0))) ∧ Aside0 (wc.heap[gb333]? = some (.cells #[.int .u8 x334000_13, .int .i64 a0_1, .int .i64 a0_2, .int .i64 a0_3] 23 (0, 0))) ∧ Aside0 (Below w.heap.size w wc))
      case first =>
        have H := HC14.out
        clear HC14
        by_cases c29 : a0_0 ≥ 97
        · rw [if_pos c29] at H
          have c29b0 : decide (97 ≤ a0_0) = true := decide_eq_true c29
          clear c29
          (first | rw [c29b0] | (simp only [i64_w, i32_w]; rw [c29b0]) | skip)
          have H' := Aside0.mk H
          clear H
          have hnb30 := NB327_332.out
          have hnc30 := NB332_327.out
          have hnb31 := NB327_333.out
          have hnc31 := NB333_327.out
          have hcz32_0 : w24.cell? ⟨gb327, 0, none⟩ = some (.int .u8 a0_0) := (blk_cell BK327.out 0).trans rfl
          have hcz32_1 : w24.cell? ⟨gb327, 1, none⟩ = some (.int .i64 a0_1) := (blk_cell BK327.out 1).trans rfl
          have hcz32_2 : w24.cell? ⟨gb327, 2, none⟩ = some (.int .i64 a0_2) := (blk_cell BK327.out 2).trans rfl
          have hcz32_3 : w24.cell? ⟨gb327, 3, none⟩ = some (.int .i64 a0_3) := (blk_cell BK327.out 3).trans rfl
          have hfz32_0 := blk_frozen BK327.out 0
          have hfz32_1 := blk_frozen BK327.out 1
          have hfz32_2 := blk_frozen BK327.out 2
          have hfz32_3 := blk_frozen BK327.out 3
          have hnb33 := NB333_332.out
          have hnc33 := NB332_333.out
          have hcz34_0 : w24.cell? ⟨gb333, 0, none⟩ = some (.int .u8 0) := (blk_cell BK333.out 0).trans rfl
          have hcz34_1 : w24.cell? ⟨gb333, 1, none⟩ = some (.int .i64 0) := (blk_cell BK333.out 1).trans rfl
          have hcz34_2 : w24.cell? ⟨gb333, 2, none⟩ = some (.int .i64 0) := (blk_cell BK333.out 2).trans rfl
          have hcz34_3 : w24.cell? ⟨gb333, 3, none⟩ = some (.int .i64 0) := (blk_cell BK333.out 3).trans rfl
          have hfz34_0 := blk_frozen BK333.out 0
          have hfz34_1 := blk_frozen BK333.out 1
          have hfz34_2 := blk_frozen BK333.out 2
          have hfz34_3 := blk_frozen BK333.out 3
          go_wp2
          go_meet
          case rel => exact ⟨_, (a0_0), ((((a0_0 - 97) % 256) + 65) % 256), H', ⟨by first | omega | exact Nat.le_refl _⟩, ⟨by (with_reducible repeat (first | refine blk_drewN ?_ _ | refine blk_drew ?_ | refine blk_alloc ?_ _)); refine blk_far ?_ NB327_333.out _; (with_reducible repeat (first | refine blk_drewN ?_ _ | refine blk_drew ?_ | refine blk_alloc ?_ _)); refine blk_far ?_ NB327_333.out _; (with_reducible repeat (first | refine blk_drewN ?_ _ | refine blk_drew ?_ | refine blk_alloc ?_ _)); refine blk_far ?_ NB327_333.out _; (with_reducible repeat (first | refine blk_drewN ?_ _ | refine blk_drew ?_ | refine blk_alloc ?_ _)); refine blk_far ?_ NB327_333.out _; (with_reducible repeat (first | refine blk_drewN ?_ _ | refine blk_drew ?_ | refine blk_alloc ?_ _)); refine blk_far ?_ NB327_333.out _; (with_reducible repeat (first | refine blk_drewN ?_ _ | refine blk_drew ?_ | refine blk_alloc ?_ _)); exact BK327.out⟩, ⟨by (with_reducible repeat (first | refine blk_drewN ?_ _ | refine blk_drew ?_ | refine blk_alloc ?_ _)); refine blk_far ?_ NB332_333.out _; (with_reducible repeat (first | refine blk_drewN ?_ _ | refine blk_drew ?_ | refine blk_alloc ?_ _)); refine blk_far ?_ NB332_333.out _; (with_reducible repeat (first | refine blk_drewN ?_ _ | refine blk_drew ?_ | refine blk_alloc ?_ _)); refine blk_far ?_ NB332_333.out _; (with_reducible repeat (first | refine blk_drewN ?_ _ | refine blk_drew ?_ | refine blk_alloc ?_ _)); refine blk_far ?_ NB332_333.out _; (with_reducible repeat (first | refine blk_drewN ?_ _ | refine blk_drew ?_ | refine blk_alloc ?_ _)); refine blk_far ?_ NB332_333.out _; (with_reducible repeat (first | refine blk_drewN ?_ _ | refine blk_drew ?_ | refine blk_alloc ?_ _)); exact BK332.out⟩, ⟨by (with_reducible repeat (first | refine blk_drewN ?_ _ | refine blk_drew ?_ | refine blk_alloc ?_ _)); refine blk_put (cs := #[.int .u8 a0_0, .int .i64 a0_1, .int .i64 a0_2, .int .i64 a0_3]) ?_ 0 _ (by exact phKy_1); (with_reducible repeat (first | refine blk_drewN ?_ _ | refine blk_drew ?_ | refine blk_alloc ?_ _)); refine blk_put (cs := #[.int .u8 a0_0, .int .i64 a0_1, .int .i64 a0_2, .int .i64 0]) ?_ 3 _ (by exact phKy_1); (with_reducible repeat (first | refine blk_drewN ?_ _ | refine blk_drew ?_ | refine blk_alloc ?_ _)); refine blk_put (cs := #[.int .u8 a0_0, .int .i64 a0_1, .int .i64 0, .int .i64 0]) ?_ 2 _ (by exact phKy_1); (with_reducible repeat (first | refine blk_drewN ?_ _ | refine blk_drew ?_ | refine blk_alloc ?_ _)); refine blk_put (cs := #[.int .u8 a0_0, .int .i64 0, .int .i64 0, .int .i64 0]) ?_ 1 _ (by exact phKy_1); (with_reducible repeat (first | refine blk_drewN ?_ _ | refine blk_drew ?_ | refine blk_alloc ?_ _)); refine blk_put (cs := #[.int .u8 0, .int .i64 0, .int .i64 0, .int .i64 0]) ?_ 0 _ (by exact phKy_1); (with_reducible repeat (first | refine blk_drewN ?_ _ | refine blk_drew ?_ | refine blk_alloc ?_ _)); exact BK333.out⟩, ⟨by exact phKy_3⟩⟩
        · rw [if_neg c29] at H
          have c29b0 : decide (97 ≤ a0_0) = false := decide_eq_false c29
          clear c29
          (first | rw [c29b0] | (simp only [i64_w, i32_w]; rw [c29b0]) | skip)
          have H' := Aside0.mk H
          clear H
          have hnb35 := NB327_332.out
          have hnc35 := NB332_327.out
          have hnb36 := NB327_333.out
          have hnc36 := NB333_327.out
          have hcz37_0 : w24.cell? ⟨gb327, 0, none⟩ = some (.int .u8 a0_0) := (blk_cell BK327.out 0).trans rfl
          have hcz37_1 : w24.cell? ⟨gb327, 1, none⟩ = some (.int .i64 a0_1) := (blk_cell BK327.out 1).trans rfl
          have hcz37_2 : w24.cell? ⟨gb327, 2, none⟩ = some (.int .i64 a0_2) := (blk_cell BK327.out 2).trans rfl
          have hcz37_3 : w24.cell? ⟨gb327, 3, none⟩ = some (.int .i64 a0_3) := (blk_cell BK327.out 3).trans rfl
          have hfz37_0 := blk_frozen BK327.out 0
          have hfz37_1 := blk_frozen BK327.out 1
          have hfz37_2 := blk_frozen BK327.out 2
          have hfz37_3 := blk_frozen BK327.out 3
          have hnb38 := NB332_333.out
          have hnc38 := NB333_332.out
          have hcz39_0 : w24.cell? ⟨gb332, 0, none⟩ = some (.int .u8 a0_0) := (blk_cell BK332.out 0).trans rfl
          have hcz39_1 : w24.cell? ⟨gb332, 1, none⟩ = some (.int .i64 a0_1) := (blk_cell BK332.out 1).trans rfl
          have hcz39_2 : w24.cell? ⟨gb332, 2, none⟩ = some (.int .i64 a0_2) := (blk_cell BK332.out 2).trans rfl
          have hcz39_3 : w24.cell? ⟨gb332, 3, none⟩ = some (.int .i64 a0_3) := (blk_cell BK332.out 3).trans rfl
          have hfz39_0 := blk_frozen BK332.out 0
          have hfz39_1 := blk_frozen BK332.out 1
          have hfz39_2 := blk_frozen BK332.out 2
          have hfz39_3 := blk_frozen BK332.out 3
          go_wp2
          go_meet
          case rel => exact ⟨_, ((((a0_0 - 65) % 256) + 97) % 256), (a0_0), H', ⟨by first | omega | exact Nat.le_refl _⟩, ⟨by (with_reducible repeat (first | refine blk_drewN ?_ _ | refine blk_drew ?_ | refine blk_alloc ?_ _)); refine blk_far ?_ NB327_332.out _; (with_reducible repeat (first | refine blk_drewN ?_ _ | refine blk_drew ?_ | refine blk_alloc ?_ _)); refine blk_far ?_ NB327_333.out _; (with_reducible repeat (first | refine blk_drewN ?_ _ | refine blk_drew ?_ | refine blk_alloc ?_ _)); refine blk_far ?_ NB327_333.out _; (with_reducible repeat (first | refine blk_drewN ?_ _ | refine blk_drew ?_ | refine blk_alloc ?_ _)); refine blk_far ?_ NB327_333.out _; (with_reducible repeat (first | refine blk_drewN ?_ _ | refine blk_drew ?_ | refine blk_alloc ?_ _)); refine blk_far ?_ NB327_333.out _; (with_reducible repeat (first | refine blk_drewN ?_ _ | refine blk_drew ?_ | refine blk_alloc ?_ _)); exact BK327.out⟩, ⟨by (with_reducible repeat (first | refine blk_drewN ?_ _ | refine blk_drew ?_ | refine blk_alloc ?_ _)); refine blk_put (cs := #[.int .u8 a0_0, .int .i64 a0_1, .int .i64 a0_2, .int .i64 a0_3]) ?_ 0 _ (by exact phKy_1); (with_reducible repeat (first | refine blk_drewN ?_ _ | refine blk_drew ?_ | refine blk_alloc ?_ _)); refine blk_far ?_ NB332_333.out _; (with_reducible repeat (first | refine blk_drewN ?_ _ | refine blk_drew ?_ | refine blk_alloc ?_ _)); refine blk_far ?_ NB332_333.out _; (with_reducible repeat (first | refine blk_drewN ?_ _ | refine blk_drew ?_ | refine blk_alloc ?_ _)); refine blk_far ?_ NB332_333.out _; (with_reducible repeat (first | refine blk_drewN ?_ _ | refine blk_drew ?_ | refine blk_alloc ?_ _)); refine blk_far ?_ NB332_333.out _; (with_reducible repeat (first | refine blk_drewN ?_ _ | refine blk_drew ?_ | refine blk_alloc ?_ _)); exact BK332.out⟩, ⟨by (with_reducible repeat (first | refine blk_drewN ?_ _ | refine blk_drew ?_ | refine blk_alloc ?_ _)); refine blk_far ?_ NB333_332.out _; (with_reducible repeat (first | refine blk_drewN ?_ _ | refine blk_drew ?_ | refine blk_alloc ?_ _)); refine blk_put (cs := #[.int .u8 a0_0, .int .i64 a0_1, .int .i64 a0_2, .int .i64 0]) ?_ 3 _ (by exact phKy_1); (with_reducible repeat (first | refine blk_drewN ?_ _ | refine blk_drew ?_ | refine blk_alloc ?_ _)); refine blk_put (cs := #[.int .u8 a0_0, .int .i64 a0_1, .int .i64 0, .int .i64 0]) ?_ 2 _ (by exact phKy_1); (with_reducible repeat (first | refine blk_drewN ?_ _ | refine blk_drew ?_ | refine blk_alloc ?_ _)); refine blk_put (cs := #[.int .u8 a0_0, .int .i64 0, .int .i64 0, .int .i64 0]) ?_ 1 _ (by exact phKy_1); (with_reducible repeat (first | refine blk_drewN ?_ _ | refine blk_drew ?_ | refine blk_alloc ?_ _)); refine blk_put (cs := #[.int .u8 0, .int .i64 0, .int .i64 0, .int .i64 0]) ?_ 0 _ (by exact phKy_1); (with_reducible repeat (first | refine blk_drewN ?_ _ | refine blk_drew ?_ | refine blk_alloc ?_ _)); exact BK333.out⟩, ⟨by exact phKy_3⟩⟩
      case rest =>
        clear HC14
        try clear c1
        try clear c2
        try clear p2
        try clear c3
        try clear c4
        try clear c6
        try clear c6b0
        try clear c6b1
        try clear c13
        try clear c14
        try clear c15
        try clear c21
        try clear c25
        try clear c26
        try clear c29
        try clear c29b0
        try clear c30
        try clear c31
        try clear c33
        try clear c35
        try clear c36
        try clear c38
        try clear hcz10_0
        try clear hcz10_1
        try clear hcz10_2
        try clear hcz10_3
        try clear hcz12_0
        try clear hcz12_1
        try clear hcz12_2
        try clear hcz12_3
        try clear hcz17_0
        try clear hcz17_1
        try clear hcz17_2
        try clear hcz17_3
        try clear hcz19_0
        try clear hcz19_1
        try clear hcz19_2
        try clear hcz19_3
        try clear hcz22_0
        try clear hcz22_1
        try clear hcz22_2
        try clear hcz22_3
        try clear hcz23_0
        try clear hcz23_1
        try clear hcz23_2
        try clear hcz23_3
        try clear hcz27_0
        try clear hcz27_1
        try clear hcz27_2
        try clear hcz27_3
        try clear hcz28_0
        try clear hcz28_1
        try clear hcz28_2
        try clear hcz28_3
        try clear hcz32_0
        try clear hcz32_1
        try clear hcz32_2
        try clear hcz32_3
        try clear hcz34_0
        try clear hcz34_1
        try clear hcz34_2
        try clear hcz34_3
        try clear hcz37_0
        try clear hcz37_1
        try clear hcz37_2
        try clear hcz37_3
        try clear hcz39_0
        try clear hcz39_1
        try clear hcz39_2
        try clear hcz39_3
        try clear hfz10_0
        try clear hfz10_1
        try clear hfz10_2
        try clear hfz10_3
        try clear hfz12_0
        try clear hfz12_1
        try clear hfz12_2
        try clear hfz12_3
        try clear hfz17_0
        try clear hfz17_1
        try clear hfz17_2
        try clear hfz17_3
        try clear hfz19_0
        try clear hfz19_1
        try clear hfz19_2
        try clear hfz19_3
        try clear hfz22_0
        try clear hfz22_1
        try clear hfz22_2
        try clear hfz22_3
        try clear hfz23_0
        try clear hfz23_1
        try clear hfz23_2
        try clear hfz23_3
        try clear hfz27_0
        try clear hfz27_1
        try clear hfz27_2
        try clear hfz27_3
        try clear hfz28_0
        try clear hfz28_1
        try clear hfz28_2
        try clear hfz28_3
        try clear hfz32_0
        try clear hfz32_1
        try clear hfz32_2
        try clear hfz32_3
        try clear hfz34_0
        try clear hfz34_1
        try clear hfz34_2
        try clear hfz34_3
        try clear hfz37_0
        try clear hfz37_1
        try clear hfz37_2
        try clear hfz37_3
        try clear hfz39_0
        try clear hfz39_1
        try clear hfz39_2
        try clear hfz39_3
        obtain ⟨kq, x333000_13, x334000_13, HA, HJ13, BK327, BK332, BK333, HB⟩ := hcut
        cases kq with
        | zero => exact absurd HA.out (by simp [abacuslaw15_PointCapitals.j0])
        | succ kj13 =>
          have H := HA.out
          clear HA
          simp only [abacuslaw15_PointCapitals.j0] at H
          replace H := Option.bind_eq_some_iff.mp H
          obtain ⟨⟨t334, t335⟩, A400, H⟩ := H
          try dsimp only at H
          have A40 := Aside0.mk A400
          clear A400
          replace H := Option.bind_eq_some_iff.mp H
          obtain ⟨⟨t336, t337⟩, A410, H⟩ := H
          try dsimp only at H
          have A41 := Aside0.mk A410
          clear A410
          replace H := Option.bind_eq_some_iff.mp H
          obtain ⟨⟨t338, t339, t340⟩, A420, H⟩ := H
          try dsimp only at H
          have A42 := Aside0.mk A420
          clear A420
          have HC43 := Aside0.mk H
          clear H
          have hnb44 := NB332_327.out
          have hnc44 := NB327_332.out
          have hnb45 := NB332_333.out
          have hnc45 := NB333_332.out
          have hcz46_0 : wc.cell? ⟨gb332, 0, none⟩ = some (.int .u8 x333000_13) := (blk_cell BK332.out 0).trans rfl
          have hcz46_1 : wc.cell? ⟨gb332, 1, none⟩ = some (.int .i64 a0_1) := (blk_cell BK332.out 1).trans rfl
          have hcz46_2 : wc.cell? ⟨gb332, 2, none⟩ = some (.int .i64 a0_2) := (blk_cell BK332.out 2).trans rfl
          have hcz46_3 : wc.cell? ⟨gb332, 3, none⟩ = some (.int .i64 a0_3) := (blk_cell BK332.out 3).trans rfl
          have hfz46_0 := blk_frozen BK332.out 0
          have hfz46_1 := blk_frozen BK332.out 1
          have hfz46_2 := blk_frozen BK332.out 2
          have hfz46_3 := blk_frozen BK332.out 3
          go_upto_region 16 with (first | ((with_reducible refine gate_callee (f := 14) rfl ?_); refine goesL_ (some 53) rfl rfl Tryz.func14 (by kernel_rfl) rfl #[.agg #[.int .u8 x333000_13, .int .i64 a0_1, .int .i64 a0_2, .int .i64 a0_3], .int .u64 a1] rfl (by exact phKy_7) ?_; (with_reducible refine (point_Render.calls kj13 x333000_13 a0_1 a0_2 a0_3 a1 t334 t335 _ A40.out).mono ?_); rintro e w47 ⟨rfl, hb⟩; refine ⟨_, rfl, ?_⟩; have n0_ := Aside0.mk (blk_below (g := gb327) (o := .cells #[.int .u8 a0_0, .int .i64 a0_1, .int .i64 a0_2, .int .i64 a0_3] 23 (0, 0)) (by exact phKy_2) hb); have n1_ := Aside0.mk (blk_below (g := gb332) (o := .cells #[.int .u8 x333000_13, .int .i64 a0_1, .int .i64 a0_2, .int .i64 a0_3] 23 (0, 0)) (by exact phKy_8) hb); have n2_ := Aside0.mk (blk_below (g := gb333) (o := .cells #[.int .u8 x334000_13, .int .i64 a0_1, .int .i64 a0_2, .int .i64 a0_3] 23 (0, 0)) (by exact phKy_9) hb); have n3_ := Aside0.mk (below_step (by exact phKy_3) hb); clear BK327; clear BK332; clear BK333; clear HB; have BK327 := n0_; have BK332 := n1_; have BK333 := n2_; have HB := n3_; clear n0_ n1_ n2_ n3_; (try clear hb); (try clear hb2); (try clear hk); (try clear hi); have hnb48 := NB333_327.out; have hnc48 := NB327_333.out; have hcz49_0 : w47.cell? ⟨gb333, 0, none⟩ = some (.int .u8 x334000_13) := (blk_cell BK333.out 0).trans rfl; have hcz49_1 : w47.cell? ⟨gb333, 1, none⟩ = some (.int .i64 a0_1) := (blk_cell BK333.out 1).trans rfl; have hcz49_2 : w47.cell? ⟨gb333, 2, none⟩ = some (.int .i64 a0_2) := (blk_cell BK333.out 2).trans rfl; have hcz49_3 : w47.cell? ⟨gb333, 3, none⟩ = some (.int .i64 a0_3) := (blk_cell BK333.out 3).trans rfl; have hfz49_0 := blk_frozen BK333.out 0; have hfz49_1 := blk_frozen BK333.out 1; have hfz49_2 := blk_frozen BK333.out 2; have hfz49_3 := blk_frozen BK333.out 3) | ((with_reducible refine gate_callee (f := 14) rfl ?_); refine goesL_ (some 59) rfl rfl Tryz.func14 (by kernel_rfl) rfl #[.agg #[.int .u8 x334000_13, .int .i64 a0_1, .int .i64 a0_2, .int .i64 a0_3], .int .u64 a1] rfl (by exact phKy_7) ?_; (with_reducible refine (point_Render.calls kj13 x334000_13 a0_1 a0_2 a0_3 a1 t336 t337 _ A41.out).mono ?_); rintro e w50 ⟨rfl, hb⟩; refine ⟨_, rfl, ?_⟩; have n0_ := Aside0.mk (blk_below (g := gb327) (o := .cells #[.int .u8 a0_0, .int .i64 a0_1, .int .i64 a0_2, .int .i64 a0_3] 23 (0, 0)) (by exact phKy_2) hb); have n1_ := Aside0.mk (blk_below (g := gb332) (o := .cells #[.int .u8 x333000_13, .int .i64 a0_1, .int .i64 a0_2, .int .i64 a0_3] 23 (0, 0)) (by exact phKy_8) hb); have n2_ := Aside0.mk (blk_below (g := gb333) (o := .cells #[.int .u8 x334000_13, .int .i64 a0_1, .int .i64 a0_2, .int .i64 a0_3] 23 (0, 0)) (by exact phKy_9) hb); have n3_ := Aside0.mk (below_step (by exact phKy_3) hb); clear BK327; clear BK332; clear BK333; clear HB; have BK327 := n0_; have BK332 := n1_; have BK333 := n2_; have HB := n3_; clear n0_ n1_ n2_ n3_; (try clear hb); (try clear hb2); (try clear hk); (try clear hi); have hcz51_0 : w50.cell? ⟨gb333, 0, none⟩ = some (.int .u8 x334000_13) := (blk_cell BK333.out 0).trans rfl; have hcz51_1 : w50.cell? ⟨gb333, 1, none⟩ = some (.int .i64 a0_1) := (blk_cell BK333.out 1).trans rfl; have hcz51_2 : w50.cell? ⟨gb333, 2, none⟩ = some (.int .i64 a0_2) := (blk_cell BK333.out 2).trans rfl; have hcz51_3 : w50.cell? ⟨gb333, 3, none⟩ = some (.int .i64 a0_3) := (blk_cell BK333.out 3).trans rfl; have hfz51_0 := blk_frozen BK333.out 0; have hfz51_1 := blk_frozen BK333.out 1; have hfz51_2 := blk_frozen BK333.out 2; have hfz51_3 := blk_frozen BK333.out 3) | ((with_reducible refine gate_callee (f := 17) rfl ?_); refine goesL_ (some 65) rfl rfl Tryz.func17 (by kernel_rfl) rfl #[.agg #[.int .u8 x334000_13, .int .i64 a0_1, .int .i64 a0_2, .int .i64 a0_3], .int .u64 a1] rfl (by exact phKy_7) ?_; (with_reducible refine (point_Special.calls kj13 x334000_13 a0_1 a0_2 a0_3 a1 t338 t339 t340 _ A42.out).mono ?_); rintro e w52 ⟨rfl, hb⟩; refine ⟨_, rfl, ?_⟩; have n0_ := Aside0.mk (blk_below (g := gb327) (o := .cells #[.int .u8 a0_0, .int .i64 a0_1, .int .i64 a0_2, .int .i64 a0_3] 23 (0, 0)) (by exact phKy_2) hb); have n1_ := Aside0.mk (blk_below (g := gb332) (o := .cells #[.int .u8 x333000_13, .int .i64 a0_1, .int .i64 a0_2, .int .i64 a0_3] 23 (0, 0)) (by exact phKy_8) hb); have n2_ := Aside0.mk (blk_below (g := gb333) (o := .cells #[.int .u8 x334000_13, .int .i64 a0_1, .int .i64 a0_2, .int .i64 a0_3] 23 (0, 0)) (by exact phKy_9) hb); have n3_ := Aside0.mk (below_step (by exact phKy_3) hb); clear BK327; clear BK332; clear BK333; clear HB; have BK327 := n0_; have BK332 := n1_; have BK333 := n2_; have HB := n3_; clear n0_ n1_ n2_ n3_; (try clear hb); (try clear hb2); (try clear hk); (try clear hi)))
          (try simp only [Act.put, List.setIfInBounds_toArray, List.set_cons_zero, List.set_cons_succ])
          go_cut [87] (fun v87 wc => ∃ (kq : Nat) (x87_42 : Bool), v87 = .bool x87_42 ∧ Aside0 (abacuslaw15_PointCapitals.j1 kq a1 t329 t336 t338 t339 x87_42 = some r) ∧ Aside0 (kq ≤ kj13) ∧ Aside0 (wc.heap[gb327]? = some (.cells #[.int .u8 a0_0, .int .i64 a0_1, .int .i64 a0_2, .int .i64 a0_3] 23 (0, 0))) ∧ Aside0 (wc.heap[gb332]? = some (.cells #[.int .u8 x333000_13, .int .i64 a0_1, .int .i64 a0_2, .int .i64 a0_3] 23 (0, 0))) ∧ Aside0 (wc.heap[gb333]? = some (.cells #[.int .u8 x334000_13, .int .i64 a0_1, .int .i64 a0_2, .int .i64 a0_3] 23 (0, 0))) ∧ Aside0 (Below w.heap.size w wc))
          case first =>
            have H := HC43.out
            clear HC43
            by_cases c53 : t335 = t329
            · rw [if_pos c53] at H
              have c53b0 : (t335 == t329) = true := beq_iff_eq.mpr c53
              have c53b1 : (t335 != t329) = false := bne_eq_false_iff_eq.mpr c53
              clear c53
              (first | rw [c53b0] | (simp only [i64_w, i32_w]; rw [c53b0]) | skip)
              by_cases c54 : t337 = t329
              · rw [if_pos c54] at H
                have c54b0 : (t337 == t329) = true := beq_iff_eq.mpr c54
                have c54b1 : (t337 != t329) = false := bne_eq_false_iff_eq.mpr c54
                clear c54
                by_cases c55 : t340 = t329
                · rw [if_pos c55] at H
                  have c55b0 : (t340 == t329) = true := beq_iff_eq.mpr c55
                  have c55b1 : (t340 != t329) = false := bne_eq_false_iff_eq.mpr c55
                  clear c55
                  replace H := Option.bind_eq_some_iff.mp H
                  obtain ⟨t341, A560, H⟩ := H
                  try dsimp only at H
                  have A56 := Aside0.mk A560
                  clear A560
                  have H' := Aside0.mk H
                  clear H
                  go_wp2_with (first | (go_at_call 18; (with_reducible refine (abacuslaw15_lowered.calls t336 t341 _ A56.out).mono ?_); rintro e w57 ⟨rfl, hb⟩; have n0_ := Aside0.mk (blk_below (g := gb327) (o := .cells #[.int .u8 a0_0, .int .i64 a0_1, .int .i64 a0_2, .int .i64 a0_3] 23 (0, 0)) (by exact phKy_2) hb); have n1_ := Aside0.mk (blk_below (g := gb332) (o := .cells #[.int .u8 x333000_13, .int .i64 a0_1, .int .i64 a0_2, .int .i64 a0_3] 23 (0, 0)) (by exact phKy_8) hb); have n2_ := Aside0.mk (blk_below (g := gb333) (o := .cells #[.int .u8 x334000_13, .int .i64 a0_1, .int .i64 a0_2, .int .i64 a0_3] 23 (0, 0)) (by exact phKy_9) hb); have n3_ := Aside0.mk (below_step (by exact phKy_3) hb); clear BK327; clear BK332; clear BK333; clear HB; have BK327 := n0_; have BK332 := n1_; have BK333 := n2_; have HB := n3_; clear n0_ n1_ n2_ n3_; (try clear hb); (try clear hb2); (try clear hk); (try clear hi)))
                  go_meet
                  case rel => exact ⟨_, ((t334.toList != t341.toList)), (by first | rfl | (simp; done) | (simp [*]; done)), H', ⟨by have := HJ13.out; first | omega | exact Nat.le_refl _⟩, ⟨by exact phKy_2⟩, ⟨by exact phKy_8⟩, ⟨by exact phKy_9⟩, ⟨by exact phKy_3⟩⟩
                · rw [if_neg c55] at H
                  have c55b0 : (t340 == t329) = false := beq_eq_false_iff_ne.mpr c55
                  have c55b1 : (t340 != t329) = true := bne_iff_ne.mpr c55
                  have H' := Aside0.mk H
                  clear H
                  exact abacuslaw15_PointCapitals.w1
              · rw [if_neg c54] at H
                have c54b0 : (t337 == t329) = false := beq_eq_false_iff_ne.mpr c54
                have c54b1 : (t337 != t329) = true := bne_iff_ne.mpr c54
                have H' := Aside0.mk H
                clear H
                exact abacuslaw15_PointCapitals.w1
            · rw [if_neg c53] at H
              have c53b0 : (t335 == t329) = false := beq_eq_false_iff_ne.mpr c53
              have c53b1 : (t335 != t329) = true := bne_iff_ne.mpr c53
              (first | rw [c53b0] | (simp only [i64_w, i32_w]; rw [c53b0]) | skip)
              have H' := Aside0.mk H
              clear H
              exact abacuslaw15_PointCapitals.w1
          case rest =>
            clear HC43
            try clear c1
            try clear c2
            try clear p2
            try clear c3
            try clear c4
            try clear c5
            try clear c6
            try clear c6b0
            try clear c6b1
            try clear c13
            try clear c14
            try clear c15
            try clear c17
            try clear c21
            try clear c25
            try clear c26
            try clear c29
            try clear c29b0
            try clear c30
            try clear c31
            try clear c33
            try clear c35
            try clear c36
            try clear c38
            try clear c44
            try clear c45
            try clear c48
            try clear c53
            try clear c53b0
            try clear c53b1
            try clear c54
            try clear c54b0
            try clear c54b1
            try clear c55
            try clear c55b0
            try clear c55b1
            try clear hcz10_0
            try clear hcz10_1
            try clear hcz10_2
            try clear hcz10_3
            try clear hcz12_0
            try clear hcz12_1
            try clear hcz12_2
            try clear hcz12_3
            try clear hcz17_0
            try clear hcz17_1
            try clear hcz17_2
            try clear hcz17_3
            try clear hcz19_0
            try clear hcz19_1
            try clear hcz19_2
            try clear hcz19_3
            try clear hcz22_0
            try clear hcz22_1
            try clear hcz22_2
            try clear hcz22_3
            try clear hcz23_0
            try clear hcz23_1
            try clear hcz23_2
            try clear hcz23_3
            try clear hcz27_0
            try clear hcz27_1
            try clear hcz27_2
            try clear hcz27_3
            try clear hcz28_0
            try clear hcz28_1
            try clear hcz28_2
            try clear hcz28_3
            try clear hcz32_0
            try clear hcz32_1
            try clear hcz32_2
            try clear hcz32_3
            try clear hcz34_0
            try clear hcz34_1
            try clear hcz34_2
            try clear hcz34_3
            try clear hcz37_0
            try clear hcz37_1
            try clear hcz37_2
            try clear hcz37_3
            try clear hcz39_0
            try clear hcz39_1
            try clear hcz39_2
            try clear hcz39_3
            try clear hcz46_0
            try clear hcz46_1
            try clear hcz46_2
            try clear hcz46_3
            try clear hcz49_0
            try clear hcz49_1
            try clear hcz49_2
            try clear hcz49_3
            try clear hcz51_0
            try clear hcz51_1
            try clear hcz51_2
            try clear hcz51_3
            try clear hfz10_0
            try clear hfz10_1
            try clear hfz10_2
            try clear hfz10_3
            try clear hfz12_0
            try clear hfz12_1
            try clear hfz12_2
            try clear hfz12_3
            try clear hfz17_0
            try clear hfz17_1
            try clear hfz17_2
            try clear hfz17_3
            try clear hfz19_0
            try clear hfz19_1
            try clear hfz19_2
            try clear hfz19_3
            try clear hfz22_0
            try clear hfz22_1
            try clear hfz22_2
            try clear hfz22_3
            try clear hfz23_0
            try clear hfz23_1
            try clear hfz23_2
            try clear hfz23_3
            try clear hfz27_0
            try clear hfz27_1
            try clear hfz27_2
            try clear hfz27_3
            try clear hfz28_0
            try clear hfz28_1
            try clear hfz28_2
            try clear hfz28_3
            try clear hfz32_0
            try clear hfz32_1
            try clear hfz32_2
            try clear hfz32_3
            try clear hfz34_0
            try clear hfz34_1
            try clear hfz34_2
            try clear hfz34_3
            try clear hfz37_0
            try clear hfz37_1
            try clear hfz37_2
            try clear hfz37_3
            try clear hfz39_0
            try clear hfz39_1
            try clear hfz39_2
            try clear hfz39_3
            try clear hfz46_0
            try clear hfz46_1
            try clear hfz46_2
            try clear hfz46_3
            try clear hfz49_0
            try clear hfz49_1
            try clear hfz49_2
            try clear hfz49_3
            try clear hfz51_0
            try clear hfz51_1
            try clear hfz51_2
            try clear hfz51_3
            try clear p2
            obtain ⟨kq, x87_42, rfl, HA, HJ42, BK327, BK332, BK333, HB⟩ := hcut
            cases kq with
            | zero => exact absurd HA.out (by simp [abacuslaw15_PointCapitals.j1])
            | succ kj42 =>
              have H := HA.out
              clear HA
              simp only [abacuslaw15_PointCapitals.j1] at H
              by_cases c58 : x87_42 = true
              · subst c58
                have H1 : (some false) = some r := by rw [if_pos rfl] at H; exact H
                clear H
                have H := H1
                clear H1
                obtain rfl := Option.some.inj H
                exact abacuslaw15_PointCapitals.w2
              · replace c58 := Bool.eq_false_iff.mpr c58
                subst c58
                have H1 : (abacuslaw15_PointCapitals.l0 kj42 a1 t329 t336 t338 t339 0) = some r := by rw [if_neg (show ¬ (false = true) by decide)] at H; exact H
                clear H
                have H := H1
                clear H1
                have H' := Aside0.mk H
                clear H
                go_wp2
                go_loopg [18] kj42 (fun kq v18 w' => ∃ (x18_3 : Int), v18 = .int .i64 x18_3 ∧ Aside0 (abacuslaw15_PointCapitals.l0 kq a1 t329 t336 t338 t339 x18_3 = some r) ∧ Aside0 (kq ≤ kj42) ∧ Aside0 (w'.heap[gb327]? = some (.cells #[.int .u8 a0_0, .int .i64 a0_1, .int .i64 a0_2, .int .i64 a0_3] 23 (0, 0))) ∧ Aside0 (w'.heap[gb332]? = some (.cells #[.int .u8 x333000_13, .int .i64 a0_1, .int .i64 a0_2, .int .i64 a0_3] 23 (0, 0))) ∧ Aside0 (w'.heap[gb333]? = some (.cells #[.int .u8 x334000_13, .int .i64 a0_1, .int .i64 a0_2, .int .i64 a0_3] 23 (0, 0))) ∧ Aside0 (Below w.heap.size w w'))
                case atStart => exact ⟨(0), (by first | rfl | (simp; done) | (simp [*]; done)), H', ⟨Nat.le_refl _⟩, ⟨by exact phKy_2⟩, ⟨by exact phKy_8⟩, ⟨by exact phKy_9⟩, ⟨by exact phKy_3⟩⟩
                case round =>
                  clear H'
                  try clear c1
                  try clear c2
                  try clear p2
                  try clear c3
                  try clear c4
                  try clear c5
                  try clear c6
                  try clear c6b0
                  try clear c6b1
                  try clear c13
                  try clear c14
                  try clear c15
                  try clear c17
                  try clear c21
                  try clear c25
                  try clear c26
                  try clear c29
                  try clear c29b0
                  try clear c30
                  try clear c31
                  try clear c33
                  try clear c35
                  try clear c36
                  try clear c38
                  try clear c44
                  try clear c45
                  try clear c48
                  try clear c53
                  try clear c53b0
                  try clear c53b1
                  try clear c54
                  try clear c54b0
                  try clear c54b1
                  try clear c55
                  try clear c55b0
                  try clear c55b1
                  try clear c58
                  try clear hcz10_0
                  try clear hcz10_1
                  try clear hcz10_2
                  try clear hcz10_3
                  try clear hcz12_0
                  try clear hcz12_1
                  try clear hcz12_2
                  try clear hcz12_3
                  try clear hcz17_0
                  try clear hcz17_1
                  try clear hcz17_2
                  try clear hcz17_3
                  try clear hcz19_0
                  try clear hcz19_1
                  try clear hcz19_2
                  try clear hcz19_3
                  try clear hcz22_0
                  try clear hcz22_1
                  try clear hcz22_2
                  try clear hcz22_3
                  try clear hcz23_0
                  try clear hcz23_1
                  try clear hcz23_2
                  try clear hcz23_3
                  try clear hcz27_0
                  try clear hcz27_1
                  try clear hcz27_2
                  try clear hcz27_3
                  try clear hcz28_0
                  try clear hcz28_1
                  try clear hcz28_2
                  try clear hcz28_3
                  try clear hcz32_0
                  try clear hcz32_1
                  try clear hcz32_2
                  try clear hcz32_3
                  try clear hcz34_0
                  try clear hcz34_1
                  try clear hcz34_2
                  try clear hcz34_3
                  try clear hcz37_0
                  try clear hcz37_1
                  try clear hcz37_2
                  try clear hcz37_3
                  try clear hcz39_0
                  try clear hcz39_1
                  try clear hcz39_2
                  try clear hcz39_3
                  try clear hcz46_0
                  try clear hcz46_1
                  try clear hcz46_2
                  try clear hcz46_3
                  try clear hcz49_0
                  try clear hcz49_1
                  try clear hcz49_2
                  try clear hcz49_3
                  try clear hcz51_0
                  try clear hcz51_1
                  try clear hcz51_2
                  try clear hcz51_3
                  try clear hfz10_0
                  try clear hfz10_1
                  try clear hfz10_2
                  try clear hfz10_3
                  try clear hfz12_0
                  try clear hfz12_1
                  try clear hfz12_2
                  try clear hfz12_3
                  try clear hfz17_0
                  try clear hfz17_1
                  try clear hfz17_2
                  try clear hfz17_3
                  try clear hfz19_0
                  try clear hfz19_1
                  try clear hfz19_2
                  try clear hfz19_3
                  try clear hfz22_0
                  try clear hfz22_1
                  try clear hfz22_2
                  try clear hfz22_3
                  try clear hfz23_0
                  try clear hfz23_1
                  try clear hfz23_2
                  try clear hfz23_3
                  try clear hfz27_0
                  try clear hfz27_1
                  try clear hfz27_2
                  try clear hfz27_3
                  try clear hfz28_0
                  try clear hfz28_1
                  try clear hfz28_2
                  try clear hfz28_3
                  try clear hfz32_0
                  try clear hfz32_1
                  try clear hfz32_2
                  try clear hfz32_3
                  try clear hfz34_0
                  try clear hfz34_1
                  try clear hfz34_2
                  try clear hfz34_3
                  try clear hfz37_0
                  try clear hfz37_1
                  try clear hfz37_2
                  try clear hfz37_3
                  try clear hfz39_0
                  try clear hfz39_1
                  try clear hfz39_2
                  try clear hfz39_3
                  try clear hfz46_0
                  try clear hfz46_1
                  try clear hfz46_2
                  try clear hfz46_3
                  try clear hfz49_0
                  try clear hfz49_1
                  try clear hfz49_2
                  try clear hfz49_3
                  try clear hfz51_0
                  try clear hfz51_1
                  try clear hfz51_2
                  try clear hfz51_3
                  try clear p2
                  obtain ⟨x18_3, rfl, HA, HK3, BK327, BK332, BK333, HB⟩ := hrel
                  cases gk with
                  | zero => exact absurd HA.out (by simp [abacuslaw15_PointCapitals.l0])
                  | succ k3 =>
                    have H := HA.out
                    clear HA
                    simp only [abacuslaw15_PointCapitals.l0] at H
                    by_cases c59 : x18_3 < (t336.size : Int)
                    · rw [if_pos c59] at H
                      have c59b0 : decide (x18_3 < (t336.size : Int)) = true := decide_eq_true c59
                      clear c59
                      by_cases c60 : 0 ≤ x18_3
                      · rw [if_pos c60] at H
                        have c60b0 : decide (0 ≤ x18_3) = true := decide_eq_true c60
                        clear c60
                        by_cases c62 : (bt t336 x18_3) ≥ 97
                        · rw [if_pos c62] at H
                          have c62b0 : decide (97 ≤ (bt t336 x18_3)) = true := decide_eq_true c62
                          clear c62
                          by_cases c64 : (bt t336 x18_3) ≤ 122
                          · rw [if_pos c64] at H
                            have c64b0 : decide ((bt t336 x18_3) ≤ 122) = true := decide_eq_true c64
                            clear c64
                            obtain rfl := Option.some.inj H
                            have p61 : 0 ≤ (x18_3 : Int) := of_decide_eq_true (by exact phKy_5)
                            have q61 : x18_3 < (t336.size : Int) := of_decide_eq_true (by exact phKy_5)
                            have hx61 := bt_at t336 x18_3
                            replace p61 := eq_true p61
                            replace q61 := eq_true q61
                            have p63 : 0 ≤ (x18_3 : Int) := of_decide_eq_true (by exact phKy_5)
                            have q63 : x18_3 < (t336.size : Int) := of_decide_eq_true (by exact phKy_5)
                            have hx63 := bt_at t336 x18_3
                            replace p63 := eq_true p63
                            replace q63 := eq_true q63
                            exact abacuslaw15_PointCapitals.w2
                          · rw [if_neg c64] at H
                            have c64b0 : decide ((bt t336 x18_3) ≤ 122) = false := decide_eq_false c64
                            clear c64
                            have H' := Aside0.mk H
                            clear H
                            have p61 : 0 ≤ (x18_3 : Int) := of_decide_eq_true (by exact phKy_5)
                            have q61 : x18_3 < (t336.size : Int) := of_decide_eq_true (by exact phKy_5)
                            have hx61 := bt_at t336 x18_3
                            replace p61 := eq_true p61
                            replace q61 := eq_true q61
                            have p63 : 0 ≤ (x18_3 : Int) := of_decide_eq_true (by exact phKy_5)
                            have q63 : x18_3 < (t336.size : Int) := of_decide_eq_true (by exact phKy_5)
                            have hx63 := bt_at t336 x18_3
                            replace p63 := eq_true p63
                            replace q63 := eq_true q63
                            exact abacuslaw15_PointCapitals.w3
                        · rw [if_neg c62] at H
                          have c62b0 : decide (97 ≤ (bt t336 x18_3)) = false := decide_eq_false c62
                          clear c62
                          have H' := Aside0.mk H
                          clear H
                          have p61 : 0 ≤ (x18_3 : Int) := of_decide_eq_true (by exact phKy_5)
                          have q61 : x18_3 < (t336.size : Int) := of_decide_eq_true (by exact phKy_5)
                          have hx61 := bt_at t336 x18_3
                          replace p61 := eq_true p61
                          replace q61 := eq_true q61
                          exact abacuslaw15_PointCapitals.w3
                      · rw [if_neg c60] at H
                        exact absurd H (by simp)
                    · rw [if_neg c59] at H
                      have c59b0 : decide (x18_3 < (t336.size : Int)) = false := decide_eq_false c59
                      clear c59
                      by_cases c65 : t329 = 0
                      · rw [if_pos c65] at H
                        have c65b0 : (t329 == 0) = true := beq_iff_eq.mpr c65
                        have c65b1 : (t329 != 0) = false := bne_eq_false_iff_eq.mpr c65
                        clear c65
                        replace H := Option.bind_eq_some_iff.mp H
                        obtain ⟨t342, A660, H⟩ := H
                        try dsimp only at H
                        have A66 := Aside0.mk A660
                        clear A660
                        by_cases c67 : t342 = true
                        · subst c67
                          have H1 : (if t339 = true then (some false) else (some (t338.toList == ([] : List UInt8)))) = some r := by rw [if_pos rfl] at H; exact H
                          clear H
                          have H := H1
                          clear H1
                          by_cases c68 : t339 = true
                          · subst c68
                            have H1 : (some false) = some r := by rw [if_pos rfl] at H; exact H
                            clear H
                            have H := H1
                            clear H1
                            obtain rfl := Option.some.inj H
                            exact abacuslaw15_PointCapitals.w4
                          · replace c68 := Bool.eq_false_iff.mpr c68
                            subst c68
                            have H1 : (some (t338.toList == ([] : List UInt8))) = some r := by rw [if_neg (show ¬ (false = true) by decide)] at H; exact H
                            clear H
                            have H := H1
                            clear H1
                            obtain rfl := Option.some.inj H
                            exact abacuslaw15_PointCapitals.w4
                        · replace c67 := Bool.eq_false_iff.mpr c67
                          subst c67
                          have H1 : (if t339 = true then (some (t338.toList == t336.toList)) else (some false)) = some r := by rw [if_neg (show ¬ (false = true) by decide)] at H; exact H
                          clear H
                          have H := H1
                          clear H1
                          by_cases c69 : t339 = true
                          · subst c69
                            have H1 : (some (t338.toList == t336.toList)) = some r := by rw [if_pos rfl] at H; exact H
                            clear H
                            have H := H1
                            clear H1
                            obtain rfl := Option.some.inj H
                            exact abacuslaw15_PointCapitals.w4
                          · replace c69 := Bool.eq_false_iff.mpr c69
                            subst c69
                            have H1 : (some false) = some r := by rw [if_neg (show ¬ (false = true) by decide)] at H; exact H
                            clear H
                            have H := H1
                            clear H1
                            obtain rfl := Option.some.inj H
                            exact abacuslaw15_PointCapitals.w4
                      · rw [if_neg c65] at H
                        have c65b0 : (t329 == 0) = false := beq_eq_false_iff_ne.mpr c65
                        have c65b1 : (t329 != 0) = true := bne_iff_ne.mpr c65
                        by_cases c70 : t339 = true
                        · subst c70
                          have H1 : (some false) = some r := by rw [if_pos rfl] at H; exact H
                          clear H
                          have H := H1
                          clear H1
                          obtain rfl := Option.some.inj H
                          exact abacuslaw15_PointCapitals.w2
                        · replace c70 := Bool.eq_false_iff.mpr c70
                          subst c70
                          have H1 : (some (t338.toList == ([] : List UInt8))) = some r := by rw [if_neg (show ¬ (false = true) by decide)] at H; exact H
                          clear H
                          have H := H1
                          clear H1
                          obtain rfl := Option.some.inj H
                          exact abacuslaw15_PointCapitals.w2
  · replace c4 := Bool.eq_false_iff.mpr c4
    subst c4
    have H1 : (some false) = some r := by rw [if_neg (show ¬ (false = true) by decide)] at H; exact H
    clear H
    have H := H1
    clear H1
    obtain rfl := Option.some.inj H
    go_enter Tryz.func4, Tryz.ntmps4
    go_wp2_with (first | ((with_reducible refine gate_dst (N := 2) rfl ?_); refine box_event ?hg (N := 2) ?hd (cs := #[.int .u8 a0_0, .int .i64 a0_1, .int .i64 a0_2, .int .i64 a0_3]) (t := 23) ?hr ?_; (case hd => rfl); (case hg => rfl); (case hr => first | (go_simp; done) | (go_simp; rfl)); intro gb327 hg w71 hbox hb; have n0_ := Aside0.mk (below_step (by exact phKy_6) hb); have n1_ := Aside0.mk (hbox); have n2_ := Aside0.mk ((by rw [hg]; exact (below_size (by exact phKy_6)) : w.heap.size ≤ gb327)); have n3_ := Aside0.mk ((by rw [hg]; exact (below_size (by exact phKy_6)) : w.heap.size ≤ gb327)); clear HB; have HB := n0_; have BK327 := n1_; have GW327 := n2_; have GE327 := n3_; clear n0_ n1_ n2_ n3_; clear hb hbox hg) | ((with_reducible refine gate_callee (f := 13) rfl ?_); refine goesL_ (some 19) rfl rfl Tryz.func13 (by kernel_rfl) rfl #[] rfl (by exact phKy_7) ?_; (with_reducible refine (abacuslaw15_awake.calls k  false _ A3.out).mono ?_); rintro e w72 ⟨rfl, hb⟩; refine ⟨_, rfl, ?_⟩; have n0_ := Aside0.mk (blk_below (g := gb327) (o := .cells #[.int .u8 a0_0, .int .i64 a0_1, .int .i64 a0_2, .int .i64 a0_3] 23 (0, 0)) (by exact phKy_2) hb); have n1_ := Aside0.mk (below_step (by exact phKy_4) hb); clear BK327; clear HB; have BK327 := n0_; have HB := n1_; clear n0_ n1_; (try clear hb); (try clear hb2); (try clear hk); (try clear hi)))
    go_ret
    exact ⟨by exact phKy_10, by exact phKy_4⟩

end Go.Proofs.YtgbjojokjekmhaaGreatDoor.PXK
