/- The machine's side of a law, printed by a program of this session out of the translation; conditions: none. -/
import Derived.Test.YtgbjojokjekmhaaGreatDoorPXCx0
import Derived.Test.YtgbjojokjekmhaaGreatDoorPXCx12
import Derived.Test.YtgbjojokjekmhaaGreatDoorPXCx13
namespace Go.Proofs.YtgbjojokjekmhaaGreatDoor.PXC
open Go.Proofs.YtgbjojokjekmhaaGreatDoor
open Go.RowKit Go.Proofs.YtgbjojokjekmhaaGreatDoorW.PrintWords Go.Proofs.YtgbjojokjekmhaaGreatDoorW.PrintLast Go.Proofs.YtgbjojokjekmhaaGreatDoorW.PrintMore
attribute [local go_sem] max2_int min2_int max_two min_two max_three min_three max_four min_four   -- for this text's walks alone
set_option linter.unusedVariables false
set_option linter.unusedSimpArgs false

theorem phCx14_1 {P : Prop} (h : P := by (with_reducible repeat (first | refine blk_drewN ?_ _ | refine blk_drew ?_ | refine blk_alloc ?_ _)); exact BK327.out) : P := h
theorem phCx14_2 {P : Prop} (h : P := by repeat (first | (with_reducible first | exact HB.out | apply below_alloc | apply pw_below_drewN | apply below_drew1 | refine below_set ?_ GE327.out) | exact HB.out)) : P := h
theorem phCx14_3 {P : Prop} (h : P := by first | (with_reducible assumption) | assumption) : P := h
theorem phCx14_4 {P : Prop} (h : P := by repeat (first | (with_reducible first | exact HB.out | apply below_alloc | apply pw_below_drewN | apply below_drew1) | exact HB.out)) : P := h
theorem phCx14_5 {P : Prop} (h : P := by first | rfl | (simp; done) | (simp [*]; done)) : P := h
theorem phCx14_6 {P : Prop} (h : P := by first | rfl | (simp [errW_none, errW_some] <;> rfl) | (simp only [append_nothing]; done) | (simp only [append_nothing]; rfl) | (simp [*, errW_none, errW_some] <;> rfl)) : P := h
theorem phCx14_7 {P : Prop} (h : P := by (with_reducible repeat (first | apply Kd.R_alloc | apply Kd.R_drewN | apply Kd.R_drew)); exact HO_13.out) : P := h
/-! ### abacuslaw15_PointPads: function 3 -/
mutual
def abacuslaw15_PointPads.j0 : Nat → Int → ByteArray → ByteArray → Bool → Int → Int → Int → Int → Option (Bool)
  | 0, _, _, _, _, _, _, _, _ => none
  | k + 1, x1, x6, x9, x58, x328000, x328001, x328002, x328003 => if x58 = true then (some false) else (if (wrap64 (x328002 - (x9.size : Int))) ≤ 0 then (some (x6.toList == x9.toList)) else (if 0 < (x9.size : Int) then (if (bt x9 0) = 45 then (abacuslaw15_PointPads.j1 k x1 x6 x9 (wrap64 (x328002 - (x9.size : Int))) 0 true x328000 x328001 x328002 x328003) else (if (bt x9 0) = 43 then (abacuslaw15_PointPads.j1 k x1 x6 x9 (wrap64 (x328002 - (x9.size : Int))) 0 true x328000 x328001 x328002 x328003) else (abacuslaw15_PointPads.j1 k x1 x6 x9 (wrap64 (x328002 - (x9.size : Int))) 0 ((bt x9 0) == 32) x328000 x328001 x328002 x328003))) else (none)))
def abacuslaw15_PointPads.j1 : Nat → Int → ByteArray → ByteArray → Int → Int → Bool → Int → Int → Int → Int → Option (Bool)
  | 0, _, _, _, _, _, _, _, _, _, _ => none
  | k + 1, x1, x6, x9, x11, x12, x81, x328000, x328001, x328002, x328003 => if x81 = true then (abacuslaw15_PointPads.j2 k x1 x6 x9 x11 1 x328000 x328001 x328002 x328003) else (abacuslaw15_PointPads.j2 k x1 x6 x9 x11 x12 x328000 x328001 x328002 x328003)
def abacuslaw15_PointPads.j2 : Nat → Int → ByteArray → ByteArray → Int → Int → Int → Int → Int → Int → Option (Bool)
  | 0, _, _, _, _, _, _, _, _, _ => none
  | k + 1, x1, x6, x9, x11, x12, x328000, x328001, x328002, x328003 => if 0 ≤ x11 then (if (x11 : Int).toNat ≤ 281474976710656 then (abacuslaw15_PointPads.l0 k x1 x6 x9 x11 x12 (List.replicate (x11 : Int).toNat 0) 0 x328000 x328001 x328002 x328003) else (none)) else (none)
def abacuslaw15_PointPads.l0 : Nat → Int → ByteArray → ByteArray → Int → Int → List Int → Int → Int → Int → Int → Int → Option (Bool)
  | 0, _, _, _, _, _, _, _, _, _, _, _ => none
  | k + 1, x1, x6, x9, x11, x12, x13, x14, x328000, x328001, x328002, x328003 => if x14 < x11 then (if 0 ≤ x14 then (if x14 < (x13.length : Int) then ((some (x13.set (x14 : Int).toNat 32 : List Int)).bind fun y337 => (if (Go.bits .and .i64 x328001 17) = 16 then ((abacuslaw15_finite.f x1).bind fun t338 => (if t338 = true then (abacuslaw15_PointPads.l0 k x1 x6 x9 x11 x12 (y337.set (x14 : Int).toNat 48) (wrap64 (x14 + 1)) x328000 x328001 x328002 x328003) else (abacuslaw15_PointPads.l0 k x1 x6 x9 x11 x12 y337 (wrap64 (x14 + 1)) x328000 x328001 x328002 x328003))) else (abacuslaw15_PointPads.l0 k x1 x6 x9 x11 x12 y337 (wrap64 (x14 + 1)) x328000 x328001 x328002 x328003))) else (none)) else (none)) else (if (Go.bits .and .i64 x328001 1) = 0 then (if 0 < (x13.length : Int) then (if (rd x13 0) = 48 then (if 0 ≤ x12 then (if x12 ≤ (x9.size : Int) then (if (x9.extract 0 (x12 : Int).toNat).size + (strOfNums x13).size ≤ 9223372036854775807 then (if ((x9.extract 0 (x12 : Int).toNat) ++ (strOfNums x13)).size + (x9.extract (x12 : Int).toNat x9.size).size ≤ 9223372036854775807 then (some (x6.toList == (((x9.extract 0 (x12 : Int).toNat) ++ (strOfNums x13)) ++ (x9.extract (x12 : Int).toNat x9.size)).toList)) else (none)) else (none)) else (none)) else (none)) else (if (strOfNums x13).size + x9.size ≤ 9223372036854775807 then (some (x6.toList == ((strOfNums x13) ++ x9).toList)) else (none))) else (none)) else (if x9.size + (strOfNums x13).size ≤ 9223372036854775807 then (some (x6.toList == (x9 ++ (strOfNums x13)).toList)) else (none)))
end
def abacuslaw15_PointPads.f (k : Nat) (a0_0 : Int) (a0_1 : Int) (a0_2 : Int) (a0_3 : Int) (a1 : Int) : Option (Bool) := (abacuslaw15_awake.f k).bind fun t328 => (if t328 = true then ((point_Render.f k a0_0 a0_1 a0_2 a0_3 a1).bind fun bt329 => ((abacuslaw15_wrong.f k a0_0 a0_1 a0_2 a0_3).bind fun t331 => (if t331 = 0 then ((point_Render.f k a0_0 (Go.bits .andNot .i64 a0_1 16) 0 a0_3 a1).bind fun bt332 => (if bt329.2 = 0 then (if bt332.2 = 0 then (abacuslaw15_PointPads.j0 k a1 bt329.1 bt332.1 ((bt332.1.size : Int) == 0) a0_0 a0_1 a0_2 a0_3) else (abacuslaw15_PointPads.j0 k a1 bt329.1 bt332.1 true a0_0 a0_1 a0_2 a0_3)) else (abacuslaw15_PointPads.j0 k a1 bt329.1 bt332.1 true a0_0 a0_1 a0_2 a0_3))) else (if bt329.2 = t331 then (some (bt329.1.toList == ([] : List UInt8))) else (some false))))) else (some false))
theorem abacuslaw15_PointPads.mono_l : ∀ k, (∀ y0 y1 y2 y3 y4 y5 y6 y7, LeO (abacuslaw15_PointPads.j0 k y0 y1 y2 y3 y4 y5 y6 y7) (abacuslaw15_PointPads.j0 (k + 1) y0 y1 y2 y3 y4 y5 y6 y7)) ∧ (∀ y0 y1 y2 y3 y4 y5 y6 y7 y8 y9, LeO (abacuslaw15_PointPads.j1 k y0 y1 y2 y3 y4 y5 y6 y7 y8 y9) (abacuslaw15_PointPads.j1 (k + 1) y0 y1 y2 y3 y4 y5 y6 y7 y8 y9)) ∧ (∀ y0 y1 y2 y3 y4 y5 y6 y7 y8, LeO (abacuslaw15_PointPads.j2 k y0 y1 y2 y3 y4 y5 y6 y7 y8) (abacuslaw15_PointPads.j2 (k + 1) y0 y1 y2 y3 y4 y5 y6 y7 y8)) ∧ (∀ y0 y1 y2 y3 y4 y5 y6 y7 y8 y9 y10, LeO (abacuslaw15_PointPads.l0 k y0 y1 y2 y3 y4 y5 y6 y7 y8 y9 y10) (abacuslaw15_PointPads.l0 (k + 1) y0 y1 y2 y3 y4 y5 y6 y7 y8 y9 y10))
  | 0 => ⟨fun _ _ _ _ _ _ _ _ r h => by simp [abacuslaw15_PointPads.j0] at h, fun _ _ _ _ _ _ _ _ _ _ r h => by simp [abacuslaw15_PointPads.j1] at h, fun _ _ _ _ _ _ _ _ _ r h => by simp [abacuslaw15_PointPads.j2] at h, fun _ _ _ _ _ _ _ _ _ _ _ r h => by simp [abacuslaw15_PointPads.l0] at h⟩
  | k + 1 => by
    obtain ⟨ih0, ih1, ih2, ih3⟩ := abacuslaw15_PointPads.mono_l k
    refine ⟨?_, ?_, ?_, ?_⟩
    · intro y0 y1 y2 y3 y4 y5 y6 y7
      unfold abacuslaw15_PointPads.j0
      repeat' first
      | (with_reducible exact ih0 _ _ _ _ _ _ _ _)
      | (with_reducible exact ih1 _ _ _ _ _ _ _ _ _ _)
      | (with_reducible exact ih2 _ _ _ _ _ _ _ _ _)
      | (with_reducible exact ih3 _ _ _ _ _ _ _ _ _ _ _)
      | (with_reducible exact abacuslaw15_awake.mono _)
      | (with_reducible exact abacuslaw15_wrong.mono _ _ _ _ _)
      | (with_reducible exact point_Render.mono _ _ _ _ _ _)
      | (with_reducible exact LeO.refl _)
      | (with_reducible exact LeO.none _)
      | (with_reducible refine LeO.ite ?_ ?_)
      | (with_reducible refine LeO.bind ?_ (fun _ => ?_))
      | exact ih0 _ _ _ _ _ _ _ _
      | exact ih1 _ _ _ _ _ _ _ _ _ _
      | exact ih2 _ _ _ _ _ _ _ _ _
      | exact ih3 _ _ _ _ _ _ _ _ _ _ _
      | exact abacuslaw15_awake.mono _
      | exact abacuslaw15_wrong.mono _ _ _ _ _
      | exact point_Render.mono _ _ _ _ _ _
      | exact LeO.none _
      | refine LeO.ite ?_ ?_
      | refine LeO.bind ?_ (fun _ => ?_)
    · intro y0 y1 y2 y3 y4 y5 y6 y7 y8 y9
      unfold abacuslaw15_PointPads.j1
      repeat' first
      | (with_reducible exact ih0 _ _ _ _ _ _ _ _)
      | (with_reducible exact ih1 _ _ _ _ _ _ _ _ _ _)
      | (with_reducible exact ih2 _ _ _ _ _ _ _ _ _)
      | (with_reducible exact ih3 _ _ _ _ _ _ _ _ _ _ _)
      | (with_reducible exact abacuslaw15_awake.mono _)
      | (with_reducible exact abacuslaw15_wrong.mono _ _ _ _ _)
      | (with_reducible exact point_Render.mono _ _ _ _ _ _)
      | (with_reducible exact LeO.refl _)
      | (with_reducible exact LeO.none _)
      | (with_reducible refine LeO.ite ?_ ?_)
      | (with_reducible refine LeO.bind ?_ (fun _ => ?_))
      | exact ih0 _ _ _ _ _ _ _ _
      | exact ih1 _ _ _ _ _ _ _ _ _ _
      | exact ih2 _ _ _ _ _ _ _ _ _
      | exact ih3 _ _ _ _ _ _ _ _ _ _ _
      | exact abacuslaw15_awake.mono _
      | exact abacuslaw15_wrong.mono _ _ _ _ _
      | exact point_Render.mono _ _ _ _ _ _
      | exact LeO.none _
      | refine LeO.ite ?_ ?_
      | refine LeO.bind ?_ (fun _ => ?_)
    · intro y0 y1 y2 y3 y4 y5 y6 y7 y8
      unfold abacuslaw15_PointPads.j2
      repeat' first
      | (with_reducible exact ih0 _ _ _ _ _ _ _ _)
      | (with_reducible exact ih1 _ _ _ _ _ _ _ _ _ _)
      | (with_reducible exact ih2 _ _ _ _ _ _ _ _ _)
      | (with_reducible exact ih3 _ _ _ _ _ _ _ _ _ _ _)
      | (with_reducible exact abacuslaw15_awake.mono _)
      | (with_reducible exact abacuslaw15_wrong.mono _ _ _ _ _)
      | (with_reducible exact point_Render.mono _ _ _ _ _ _)
      | (with_reducible exact LeO.refl _)
      | (with_reducible exact LeO.none _)
      | (with_reducible refine LeO.ite ?_ ?_)
      | (with_reducible refine LeO.bind ?_ (fun _ => ?_))
      | exact ih0 _ _ _ _ _ _ _ _
      | exact ih1 _ _ _ _ _ _ _ _ _ _
      | exact ih2 _ _ _ _ _ _ _ _ _
      | exact ih3 _ _ _ _ _ _ _ _ _ _ _
      | exact abacuslaw15_awake.mono _
      | exact abacuslaw15_wrong.mono _ _ _ _ _
      | exact point_Render.mono _ _ _ _ _ _
      | exact LeO.none _
      | refine LeO.ite ?_ ?_
      | refine LeO.bind ?_ (fun _ => ?_)
    · intro y0 y1 y2 y3 y4 y5 y6 y7 y8 y9 y10
      unfold abacuslaw15_PointPads.l0
      repeat' first
      | (with_reducible exact ih0 _ _ _ _ _ _ _ _)
      | (with_reducible exact ih1 _ _ _ _ _ _ _ _ _ _)
      | (with_reducible exact ih2 _ _ _ _ _ _ _ _ _)
      | (with_reducible exact ih3 _ _ _ _ _ _ _ _ _ _ _)
      | (with_reducible exact abacuslaw15_awake.mono _)
      | (with_reducible exact abacuslaw15_wrong.mono _ _ _ _ _)
      | (with_reducible exact point_Render.mono _ _ _ _ _ _)
      | (with_reducible exact LeO.refl _)
      | (with_reducible exact LeO.none _)
      | (with_reducible refine LeO.ite ?_ ?_)
      | (with_reducible refine LeO.bind ?_ (fun _ => ?_))
      | exact ih0 _ _ _ _ _ _ _ _
      | exact ih1 _ _ _ _ _ _ _ _ _ _
      | exact ih2 _ _ _ _ _ _ _ _ _
      | exact ih3 _ _ _ _ _ _ _ _ _ _ _
      | exact abacuslaw15_awake.mono _
      | exact abacuslaw15_wrong.mono _ _ _ _ _
      | exact point_Render.mono _ _ _ _ _ _
      | exact LeO.none _
      | refine LeO.ite ?_ ?_
      | refine LeO.bind ?_ (fun _ => ?_)
theorem abacuslaw15_PointPads.mono : ∀ a0 a1 a2 a3 a4 k, LeO (abacuslaw15_PointPads.f k a0 a1 a2 a3 a4) (abacuslaw15_PointPads.f (k + 1) a0 a1 a2 a3 a4) := by
  intro a0 a1 a2 a3 a4 k
  obtain ⟨ih0, ih1, ih2, ih3⟩ := abacuslaw15_PointPads.mono_l k
  unfold abacuslaw15_PointPads.f
  repeat' first
      | (with_reducible exact ih0 _ _ _ _ _ _ _ _)
      | (with_reducible exact ih1 _ _ _ _ _ _ _ _ _ _)
      | (with_reducible exact ih2 _ _ _ _ _ _ _ _ _)
      | (with_reducible exact ih3 _ _ _ _ _ _ _ _ _ _ _)
      | (with_reducible exact abacuslaw15_awake.mono _)
      | (with_reducible exact abacuslaw15_wrong.mono _ _ _ _ _)
      | (with_reducible exact point_Render.mono _ _ _ _ _ _)
      | (with_reducible exact LeO.refl _)
      | (with_reducible exact LeO.none _)
      | (with_reducible refine LeO.ite ?_ ?_)
      | (with_reducible refine LeO.bind ?_ (fun _ => ?_))
      | exact ih0 _ _ _ _ _ _ _ _
      | exact ih1 _ _ _ _ _ _ _ _ _ _
      | exact ih2 _ _ _ _ _ _ _ _ _
      | exact ih3 _ _ _ _ _ _ _ _ _ _ _
      | exact abacuslaw15_awake.mono _
      | exact abacuslaw15_wrong.mono _ _ _ _ _
      | exact point_Render.mono _ _ _ _ _ _
      | exact LeO.none _
      | refine LeO.ite ?_ ?_
      | refine LeO.bind ?_ (fun _ => ?_)
theorem abacuslaw15_PointPads.w1 {P : Prop} (h : P := by
  go_wp2
  repeat (go_quiet (fail); try go_wp2)
  go_meet
  case rel => exact ⟨_, (true), (by exact phCx14_5), H', ⟨by first | omega | exact Nat.le_refl _⟩, ⟨by exact phCx14_1⟩, ⟨by exact phCx14_2⟩⟩) : P := h
theorem abacuslaw15_PointPads.w2 {P : Prop} (h : P := by
  go_wp2
  repeat (go_quiet (fail); try go_wp2)
  go_ret
  exact ⟨by exact phCx14_6, by exact phCx14_2⟩) : P := h
theorem abacuslaw15_PointPads.w3 {P : Prop} (h : P := by
  go_wp2
  repeat (go_quiet (fail); try go_wp2)
  go_meet
  case rel => exact ⟨_, (true), (by exact phCx14_5), H', ⟨by have := HJ8.out; first | omega | exact Nat.le_refl _⟩, ⟨by exact phCx14_1⟩, ⟨by exact phCx14_2⟩⟩) : P := h
theorem abacuslaw15_PointPads.w4 {P : Prop} (h : P := by
  go_wp2
  repeat (go_quiet (fail); try go_wp2)
  go_ret
  exact ⟨by first | rfl | (simp [errW_none, errW_some] <;> rfl) | (simp only [append_nothing]; done) | (simp only [append_nothing]; rfl) | (simp only [← hji33]; first | rfl | (simp [errW_none, errW_some] <;> rfl)) | (simp [*, errW_none, errW_some] <;> rfl), by exact phCx14_2⟩) : P := h
set_option maxHeartbeats 8000000 in
set_option maxRecDepth 100000 in
theorem abacuslaw15_PointPads.calls (k : Nat) (a0_0 : Int) (a0_1 : Int) (a0_2 : Int) (a0_3 : Int) (a1 : Int) (r : Bool) (w : World) (h : abacuslaw15_PointPads.f k a0_0 a0_1 a0_2 a0_3 a1 = some r) (HG : Aside0 (GW w) := by first | (with_reducible exact HG) | exact ⟨GW.below HG.out (by repeat (first | (with_reducible first | exact HB.out | apply below_alloc | apply pw_below_drewN | apply below_drew1) | (with_reducible refine below_set ?_ (Aside0.out (by assumption))) | exact HB.out | exact Below.refl _ _))⟩ | exact ⟨GW.drewN HG.out _⟩ | exact ⟨GW.drew HG.out⟩ | exact ⟨GW.drewN (GW.drewN HG.out _) _⟩ | exact ⟨GW.drewN (GW.drew HG.out) _⟩) :
    Calls Tryz.prog 3 #[.agg #[.int .u8 a0_0, .int .i64 a0_1, .int .i64 a0_2, .int .i64 a0_3], .int .u64 a1] w fun e w' => e = .returned (.bool r) ∧ Below w.heap.size w w' := by
  have hu23 := Tryz.underlying23
  have HB := Aside0.mk (Below.refl w.heap.size w)
  have H : ((abacuslaw15_awake.f k).bind fun t328 => (if t328 = true then ((point_Render.f k a0_0 a0_1 a0_2 a0_3 a1).bind fun bt329 => ((abacuslaw15_wrong.f k a0_0 a0_1 a0_2 a0_3).bind fun t331 => (if t331 = 0 then ((point_Render.f k a0_0 (Go.bits .andNot .i64 a0_1 16) 0 a0_3 a1).bind fun bt332 => (if bt329.2 = 0 then (if bt332.2 = 0 then (abacuslaw15_PointPads.j0 k a1 bt329.1 bt332.1 ((bt332.1.size : Int) == 0) a0_0 a0_1 a0_2 a0_3) else (abacuslaw15_PointPads.j0 k a1 bt329.1 bt332.1 true a0_0 a0_1 a0_2 a0_3)) else (abacuslaw15_PointPads.j0 k a1 bt329.1 bt332.1 true a0_0 a0_1 a0_2 a0_3))) else (if bt329.2 = t331 then (some (bt329.1.toList == ([] : List UInt8))) else (some false))))) else (some false))) = some r := h
  clear h
  replace H := Option.bind_eq_some_iff.mp H
  obtain ⟨t328, A30, H⟩ := H
  try dsimp only at H
  have A3 := Aside0.mk A30
  clear A30
  by_cases c4 : t328 = true
  · subst c4
    have H1 : ((point_Render.f k a0_0 a0_1 a0_2 a0_3 a1).bind fun bt329 => ((abacuslaw15_wrong.f k a0_0 a0_1 a0_2 a0_3).bind fun t331 => (if t331 = 0 then ((point_Render.f k a0_0 (Go.bits .andNot .i64 a0_1 16) 0 a0_3 a1).bind fun bt332 => (if bt329.2 = 0 then (if bt332.2 = 0 then (abacuslaw15_PointPads.j0 k a1 bt329.1 bt332.1 ((bt332.1.size : Int) == 0) a0_0 a0_1 a0_2 a0_3) else (abacuslaw15_PointPads.j0 k a1 bt329.1 bt332.1 true a0_0 a0_1 a0_2 a0_3)) else (abacuslaw15_PointPads.j0 k a1 bt329.1 bt332.1 true a0_0 a0_1 a0_2 a0_3))) else (if bt329.2 = t331 then (some (bt329.1.toList == ([] : List UInt8))) else (some false))))) = some r := by rw [if_pos rfl] at H; exact H
    clear H
    have H := H1
    clear H1
    replace H := Option.bind_eq_some_iff.mp H
    obtain ⟨⟨t329, t330⟩, A50, H⟩ := H
    try dsimp only at H
    have A5 := Aside0.mk A50
    clear A50
    replace H := Option.bind_eq_some_iff.mp H
    obtain ⟨t331, A60, H⟩ := H
    try dsimp only at H
    have A6 := Aside0.mk A60
    clear A60
    by_cases c7 : t331 = 0
    · rw [if_pos c7] at H
      have c7b0 : (t331 == 0) = true := beq_iff_eq.mpr c7
      have c7b1 : (t331 != 0) = false := bne_eq_false_iff_eq.mpr c7
      clear c7
      replace H := Option.bind_eq_some_iff.mp H
      obtain ⟨⟨t332, t333⟩, A80, H⟩ := H
      try dsimp only at H
      have A8 := Aside0.mk A80
      clear A80
      have HC9 := Aside0.mk H
      clear H
      go_enter Tryz.func3, Tryz.ntmps3
      go_upto_region 9 with (first | ((with_reducible refine gate_dst (N := 2) rfl ?_); (try (refine gate_guard (by rfl) ?_; dsimp only)); refine box_event ?hg (N := 2) ?hd (cs := #[.int .u8 a0_0, .int .i64 a0_1, .int .i64 a0_2, .int .i64 a0_3]) (t := 23) ?hr ?_; (case hd => rfl); (case hg => rfl); (case hr => first | (go_simp; done) | (go_simp; rfl)); intro gb327 hg w10 hbox hb; have n0_ := Aside0.mk (below_step (by exact phCx14_4) hb); have n1_ := Aside0.mk (hbox); have n2_ := Aside0.mk ((by rw [hg]; exact (below_size (by exact phCx14_4)) : w.heap.size ≤ gb327)); have n3_ := Aside0.mk ((by rw [hg]; exact (below_size (by exact phCx14_4)) : w.heap.size ≤ gb327)); clear HB; have HB := n0_; have BK327 := n1_; have GW327 := n2_; have GE327 := n3_; clear n0_ n1_ n2_ n3_; clear hb hbox hg) | (go_at_call 13; (with_reducible refine (abacuslaw15_awake.calls k  true _ A3.out).mono ?_); rintro e w11 ⟨rfl, hb⟩; have n0_ := Aside0.mk (blk_below (g := gb327) (o := .cells #[.int .u8 a0_0, .int .i64 a0_1, .int .i64 a0_2, .int .i64 a0_3] 23 (0, 0)) (by exact phCx14_1) hb); have n1_ := Aside0.mk (below_step (by exact phCx14_2) hb); clear BK327; clear HB; have BK327 := n0_; have HB := n1_; clear n0_ n1_; (try clear hb); (try clear hb2); (try clear hk); (try clear hi); have hcz12_0 : w11.cell? ⟨gb327, 0, none⟩ = some (.int .u8 a0_0) := (blk_cell BK327.out 0).trans rfl; have hcz12_1 : w11.cell? ⟨gb327, 1, none⟩ = some (.int .i64 a0_1) := (blk_cell BK327.out 1).trans rfl; have hcz12_2 : w11.cell? ⟨gb327, 2, none⟩ = some (.int .i64 a0_2) := (blk_cell BK327.out 2).trans rfl; have hcz12_3 : w11.cell? ⟨gb327, 3, none⟩ = some (.int .i64 a0_3) := (blk_cell BK327.out 3).trans rfl; have hfz12_0 := blk_frozen BK327.out 0; have hfz12_1 := blk_frozen BK327.out 1; have hfz12_2 := blk_frozen BK327.out 2; have hfz12_3 := blk_frozen BK327.out 3) | (go_at_call 14; (with_reducible refine (point_Render.calls k a0_0 a0_1 a0_2 a0_3 a1 t329 t330 _ A5.out).mono ?_); rintro e w13 ⟨rfl, hb⟩; have n0_ := Aside0.mk (blk_below (g := gb327) (o := .cells #[.int .u8 a0_0, .int .i64 a0_1, .int .i64 a0_2, .int .i64 a0_3] 23 (0, 0)) (by exact phCx14_1) hb); have n1_ := Aside0.mk (below_step (by exact phCx14_2) hb); clear BK327; clear HB; have BK327 := n0_; have HB := n1_; clear n0_ n1_; (try clear hb); (try clear hb2); (try clear hk); (try clear hi); have hcz14_0 : w13.cell? ⟨gb327, 0, none⟩ = some (.int .u8 a0_0) := (blk_cell BK327.out 0).trans rfl; have hcz14_1 : w13.cell? ⟨gb327, 1, none⟩ = some (.int .i64 a0_1) := (blk_cell BK327.out 1).trans rfl; have hcz14_2 : w13.cell? ⟨gb327, 2, none⟩ = some (.int .i64 a0_2) := (blk_cell BK327.out 2).trans rfl; have hcz14_3 : w13.cell? ⟨gb327, 3, none⟩ = some (.int .i64 a0_3) := (blk_cell BK327.out 3).trans rfl; have hfz14_0 := blk_frozen BK327.out 0; have hfz14_1 := blk_frozen BK327.out 1; have hfz14_2 := blk_frozen BK327.out 2; have hfz14_3 := blk_frozen BK327.out 3) | (go_at_call 15; (with_reducible refine (abacuslaw15_wrong.calls k a0_0 a0_1 a0_2 a0_3 t331 _ A6.out).mono ?_); rintro e w15 ⟨rfl, hb⟩; have n0_ := Aside0.mk (blk_below (g := gb327) (o := .cells #[.int .u8 a0_0, .int .i64 a0_1, .int .i64 a0_2, .int .i64 a0_3] 23 (0, 0)) (by exact phCx14_1) hb); have n1_ := Aside0.mk (below_step (by exact phCx14_2) hb); clear BK327; clear HB; have BK327 := n0_; have HB := n1_; clear n0_ n1_; (try clear hb); (try clear hb2); (try clear hk); (try clear hi); have hcz16_0 : w15.cell? ⟨gb327, 0, none⟩ = some (.int .u8 a0_0) := (blk_cell BK327.out 0).trans rfl; have hcz16_1 : w15.cell? ⟨gb327, 1, none⟩ = some (.int .i64 a0_1) := (blk_cell BK327.out 1).trans rfl; have hcz16_2 : w15.cell? ⟨gb327, 2, none⟩ = some (.int .i64 a0_2) := (blk_cell BK327.out 2).trans rfl; have hcz16_3 : w15.cell? ⟨gb327, 3, none⟩ = some (.int .i64 a0_3) := (blk_cell BK327.out 3).trans rfl; have hfz16_0 := blk_frozen BK327.out 0; have hfz16_1 := blk_frozen BK327.out 1; have hfz16_2 := blk_frozen BK327.out 2; have hfz16_3 := blk_frozen BK327.out 3) | (go_at_call 14; (with_reducible refine (point_Render.calls k a0_0 (Go.bits .andNot .i64 a0_1 16) 0 a0_3 a1 t332 t333 _ A8.out).mono ?_); rintro e w17 ⟨rfl, hb⟩; have n0_ := Aside0.mk (blk_below (g := gb327) (o := .cells #[.int .u8 a0_0, .int .i64 a0_1, .int .i64 a0_2, .int .i64 a0_3] 23 (0, 0)) (by exact phCx14_1) hb); have n1_ := Aside0.mk (below_step (by exact phCx14_2) hb); clear BK327; clear HB; have BK327 := n0_; have HB := n1_; clear n0_ n1_; (try clear hb); (try clear hb2); (try clear hk); (try clear hi)))
      repeat (go_quiet (fail); go_upto_region 9 with (first | ((with_reducible refine gate_dst (N := 2) rfl ?_); (try (refine gate_guard (by rfl) ?_; dsimp only)); refine box_event ?hg (N := 2) ?hd (cs := #[.int .u8 a0_0, .int .i64 a0_1, .int .i64 a0_2, .int .i64 a0_3]) (t := 23) ?hr ?_; (case hd => rfl); (case hg => rfl); (case hr => first | (go_simp; done) | (go_simp; rfl)); intro gb327 hg w10 hbox hb; have n0_ := Aside0.mk (below_step (by exact phCx14_4) hb); have n1_ := Aside0.mk (hbox); have n2_ := Aside0.mk ((by rw [hg]; exact (below_size (by exact phCx14_4)) : w.heap.size ≤ gb327)); have n3_ := Aside0.mk ((by rw [hg]; exact (below_size (by exact phCx14_4)) : w.heap.size ≤ gb327)); clear HB; have HB := n0_; have BK327 := n1_; have GW327 := n2_; have GE327 := n3_; clear n0_ n1_ n2_ n3_; clear hb hbox hg) | (go_at_call 13; (with_reducible refine (abacuslaw15_awake.calls k  true _ A3.out).mono ?_); rintro e w11 ⟨rfl, hb⟩; have n0_ := Aside0.mk (blk_below (g := gb327) (o := .cells #[.int .u8 a0_0, .int .i64 a0_1, .int .i64 a0_2, .int .i64 a0_3] 23 (0, 0)) (by exact phCx14_1) hb); have n1_ := Aside0.mk (below_step (by exact phCx14_2) hb); clear BK327; clear HB; have BK327 := n0_; have HB := n1_; clear n0_ n1_; (try clear hb); (try clear hb2); (try clear hk); (try clear hi); have hcz12_0 : w11.cell? ⟨gb327, 0, none⟩ = some (.int .u8 a0_0) := (blk_cell BK327.out 0).trans rfl; have hcz12_1 : w11.cell? ⟨gb327, 1, none⟩ = some (.int .i64 a0_1) := (blk_cell BK327.out 1).trans rfl; have hcz12_2 : w11.cell? ⟨gb327, 2, none⟩ = some (.int .i64 a0_2) := (blk_cell BK327.out 2).trans rfl; have hcz12_3 : w11.cell? ⟨gb327, 3, none⟩ = some (.int .i64 a0_3) := (blk_cell BK327.out 3).trans rfl; have hfz12_0 := blk_frozen BK327.out 0; have hfz12_1 := blk_frozen BK327.out 1; have hfz12_2 := blk_frozen BK327.out 2; have hfz12_3 := blk_frozen BK327.out 3) | (go_at_call 14; (with_reducible refine (point_Render.calls k a0_0 a0_1 a0_2 a0_3 a1 t329 t330 _ A5.out).mono ?_); rintro e w13 ⟨rfl, hb⟩; have n0_ := Aside0.mk (blk_below (g := gb327) (o := .cells #[.int .u8 a0_0, .int .i64 a0_1, .int .i64 a0_2, .int .i64 a0_3] 23 (0, 0)) (by exact phCx14_1) hb); have n1_ := Aside0.mk (below_step (by exact phCx14_2) hb); clear BK327; clear HB; have BK327 := n0_; have HB := n1_; clear n0_ n1_; (try clear hb); (try clear hb2); (try clear hk); (try clear hi); have hcz14_0 : w13.cell? ⟨gb327, 0, none⟩ = some (.int .u8 a0_0) := (blk_cell BK327.out 0).trans rfl; have hcz14_1 : w13.cell? ⟨gb327, 1, none⟩ = some (.int .i64 a0_1) := (blk_cell BK327.out 1).trans rfl; have hcz14_2 : w13.cell? ⟨gb327, 2, none⟩ = some (.int .i64 a0_2) := (blk_cell BK327.out 2).trans rfl; have hcz14_3 : w13.cell? ⟨gb327, 3, none⟩ = some (.int .i64 a0_3) := (blk_cell BK327.out 3).trans rfl; have hfz14_0 := blk_frozen BK327.out 0; have hfz14_1 := blk_frozen BK327.out 1; have hfz14_2 := blk_frozen BK327.out 2; have hfz14_3 := blk_frozen BK327.out 3) | (go_at_call 15; (with_reducible refine (abacuslaw15_wrong.calls k a0_0 a0_1 a0_2 a0_3 t331 _ A6.out).mono ?_); rintro e w15 ⟨rfl, hb⟩; have n0_ := Aside0.mk (blk_below (g := gb327) (o := .cells #[.int .u8 a0_0, .int .i64 a0_1, .int .i64 a0_2, .int .i64 a0_3] 23 (0, 0)) (by exact phCx14_1) hb); have n1_ := Aside0.mk (below_step (by exact phCx14_2) hb); clear BK327; clear HB; have BK327 := n0_; have HB := n1_; clear n0_ n1_; (try clear hb); (try clear hb2); (try clear hk); (try clear hi); have hcz16_0 : w15.cell? ⟨gb327, 0, none⟩ = some (.int .u8 a0_0) := (blk_cell BK327.out 0).trans rfl; have hcz16_1 : w15.cell? ⟨gb327, 1, none⟩ = some (.int .i64 a0_1) := (blk_cell BK327.out 1).trans rfl; have hcz16_2 : w15.cell? ⟨gb327, 2, none⟩ = some (.int .i64 a0_2) := (blk_cell BK327.out 2).trans rfl; have hcz16_3 : w15.cell? ⟨gb327, 3, none⟩ = some (.int .i64 a0_3) := (blk_cell BK327.out 3).trans rfl; have hfz16_0 := blk_frozen BK327.out 0; have hfz16_1 := blk_frozen BK327.out 1; have hfz16_2 := blk_frozen BK327.out 2; have hfz16_3 := blk_frozen BK327.out 3) | (go_at_call 14; (with_reducible refine (point_Render.calls k a0_0 (Go.bits .andNot .i64 a0_1 16) 0 a0_3 a1 t332 t333 _ A8.out).mono ?_); rintro e w17 ⟨rfl, hb⟩; have n0_ := Aside0.mk (blk_below (g := gb327) (o := .cells #[.int .u8 a0_0, .int .i64 a0_1, .int .i64 a0_2, .int .i64 a0_3] 23 (0, 0)) (by exact phCx14_1) hb); have n1_ := Aside0.mk (below_step (by exact phCx14_2) hb); clear BK327; clear HB; have BK327 := n0_; have HB := n1_; clear n0_ n1_; (try clear hb); (try clear hb2); (try clear hk); (try clear hi))))
      (try simp only [Act.put, List.setIfInBounds_toArray, List.set_cons_zero, List.set_cons_succ])
      go_cut [58] (fun v58 wc => ∃ (kq : Nat) (x58_8 : Bool), v58 = .bool x58_8 ∧ Aside0 (abacuslaw15_PointPads.j0 kq a1 t329 t332 x58_8 a0_0 a0_1 a0_2 a0_3 = some r) ∧ Aside0 (kq ≤ k) ∧ Aside0 (wc.heap[gb327]? = some (.cells #[.int .u8 a0_0, .int .i64 a0_1, .int .i64 a0_2, .int .i64 a0_3] 23 (0, 0))) ∧ Aside0 (Below w.heap.size w wc))
      case first =>
        have H := HC9.out
        clear HC9
        by_cases c18 : t330 = 0
        · rw [if_pos c18] at H
          have c18b0 : (t330 == 0) = true := beq_iff_eq.mpr c18
          have c18b1 : (t330 != 0) = false := bne_eq_false_iff_eq.mpr c18
          clear c18
          (first | rw [c18b0] | (simp only [i64_w, i32_w]; rw [c18b0]) | skip)
          by_cases c19 : t333 = 0
          · rw [if_pos c19] at H
            have c19b0 : (t333 == 0) = true := beq_iff_eq.mpr c19
            have c19b1 : (t333 != 0) = false := bne_eq_false_iff_eq.mpr c19
            clear c19
            have H' := Aside0.mk H
            clear H
            go_wp2
            repeat (go_quiet (fail); try go_wp2)
            go_meet
            case rel => exact ⟨_, (((t332.size : Int) == 0)), (by exact phCx14_5), H', ⟨by first | omega | exact Nat.le_refl _⟩, ⟨by exact phCx14_1⟩, ⟨by exact phCx14_2⟩⟩
          · rw [if_neg c19] at H
            have c19b0 : (t333 == 0) = false := beq_eq_false_iff_ne.mpr c19
            have c19b1 : (t333 != 0) = true := bne_iff_ne.mpr c19
            have H' := Aside0.mk H
            clear H
            exact abacuslaw15_PointPads.w1
        · rw [if_neg c18] at H
          have c18b0 : (t330 == 0) = false := beq_eq_false_iff_ne.mpr c18
          have c18b1 : (t330 != 0) = true := bne_iff_ne.mpr c18
          (first | rw [c18b0] | (simp only [i64_w, i32_w]; rw [c18b0]) | skip)
          have H' := Aside0.mk H
          clear H
          exact abacuslaw15_PointPads.w1
      case rest =>
        clear HC9
        try clear c1
        try clear p2
        try clear c3
        try clear c4
        try clear c7
        try clear c7b0
        try clear c7b1
        try clear c18
        try clear c18b0
        try clear c18b1
        try clear c19
        try clear c19b0
        try clear c19b1
        try clear hcz12_0
        try clear hcz12_1
        try clear hcz12_2
        try clear hcz12_3
        try clear hcz14_0
        try clear hcz14_1
        try clear hcz14_2
        try clear hcz14_3
        try clear hcz16_0
        try clear hcz16_1
        try clear hcz16_2
        try clear hcz16_3
        try clear hfz12_0
        try clear hfz12_1
        try clear hfz12_2
        try clear hfz12_3
        try clear hfz14_0
        try clear hfz14_1
        try clear hfz14_2
        try clear hfz14_3
        try clear hfz16_0
        try clear hfz16_1
        try clear hfz16_2
        try clear hfz16_3
        obtain ⟨kq, x58_8, rfl, HA, HJ8, BK327, HB⟩ := hcut
        cases kq with
        | zero => exact absurd HA.out (by simp [abacuslaw15_PointPads.j0])
        | succ kj8 =>
          have H := HA.out
          clear HA
          simp only [abacuslaw15_PointPads.j0] at H
          by_cases c20 : x58_8 = true
          · subst c20
            have H1 : (some false) = some r := by rw [if_pos rfl] at H; exact H
            clear H
            have H := H1
            clear H1
            obtain rfl := Option.some.inj H
            exact abacuslaw15_PointPads.w2
          · replace c20 := Bool.eq_false_iff.mpr c20
            subst c20
            have H1 : (if (wrap64 (a0_2 - (t332.size : Int))) ≤ 0 then (some (t329.toList == t332.toList)) else (if 0 < (t332.size : Int) then (if (bt t332 0) = 45 then (abacuslaw15_PointPads.j1 kj8 a1 t329 t332 (wrap64 (a0_2 - (t332.size : Int))) 0 true a0_0 a0_1 a0_2 a0_3) else (if (bt t332 0) = 43 then (abacuslaw15_PointPads.j1 kj8 a1 t329 t332 (wrap64 (a0_2 - (t332.size : Int))) 0 true a0_0 a0_1 a0_2 a0_3) else (abacuslaw15_PointPads.j1 kj8 a1 t329 t332 (wrap64 (a0_2 - (t332.size : Int))) 0 ((bt t332 0) == 32) a0_0 a0_1 a0_2 a0_3))) else (none))) = some r := by rw [if_neg (show ¬ (false = true) by decide)] at H; exact H
            clear H
            have H := H1
            clear H1
            by_cases c21 : (wrap64 (a0_2 - (t332.size : Int))) ≤ 0
            · rw [if_pos c21] at H
              have c21b0 : decide ((wrap64 (a0_2 - (t332.size : Int))) ≤ 0) = true := decide_eq_true c21
              clear c21
              obtain rfl := Option.some.inj H
              have hcz22_0 : wc.cell? ⟨gb327, 0, none⟩ = some (.int .u8 a0_0) := (blk_cell BK327.out 0).trans rfl
              have hcz22_1 : wc.cell? ⟨gb327, 1, none⟩ = some (.int .i64 a0_1) := (blk_cell BK327.out 1).trans rfl
              have hcz22_2 : wc.cell? ⟨gb327, 2, none⟩ = some (.int .i64 a0_2) := (blk_cell BK327.out 2).trans rfl
              have hcz22_3 : wc.cell? ⟨gb327, 3, none⟩ = some (.int .i64 a0_3) := (blk_cell BK327.out 3).trans rfl
              have hfz22_0 := blk_frozen BK327.out 0
              have hfz22_1 := blk_frozen BK327.out 1
              have hfz22_2 := blk_frozen BK327.out 2
              have hfz22_3 := blk_frozen BK327.out 3
              exact abacuslaw15_PointPads.w2
            · rw [if_neg c21] at H
              have c21b0 : decide ((wrap64 (a0_2 - (t332.size : Int))) ≤ 0) = false := decide_eq_false c21
              clear c21
              have HC23 := Aside0.mk H
              clear H
              have hcz24_0 : wc.cell? ⟨gb327, 0, none⟩ = some (.int .u8 a0_0) := (blk_cell BK327.out 0).trans rfl
              have hcz24_1 : wc.cell? ⟨gb327, 1, none⟩ = some (.int .i64 a0_1) := (blk_cell BK327.out 1).trans rfl
              have hcz24_2 : wc.cell? ⟨gb327, 2, none⟩ = some (.int .i64 a0_2) := (blk_cell BK327.out 2).trans rfl
              have hcz24_3 : wc.cell? ⟨gb327, 3, none⟩ = some (.int .i64 a0_3) := (blk_cell BK327.out 3).trans rfl
              have hfz24_0 := blk_frozen BK327.out 0
              have hfz24_1 := blk_frozen BK327.out 1
              have hfz24_2 := blk_frozen BK327.out 2
              have hfz24_3 := blk_frozen BK327.out 3
              go_upto_region 15 with (fail)
              repeat (go_quiet (fail); go_upto_region 15 with (fail))
              go_cut [81] (fun v81 wc => ∃ (kq : Nat) (x81_22 : Bool), v81 = .bool x81_22 ∧ Aside0 (abacuslaw15_PointPads.j1 kq a1 t329 t332 (wrap64 (a0_2 - (t332.size : Int))) 0 x81_22 a0_0 a0_1 a0_2 a0_3 = some r) ∧ Aside0 (kq ≤ kj8) ∧ Aside0 (wc.heap[gb327]? = some (.cells #[.int .u8 a0_0, .int .i64 a0_1, .int .i64 a0_2, .int .i64 a0_3] 23 (0, 0))) ∧ Aside0 (Below w.heap.size w wc))
              case first =>
                have H := HC23.out
                clear HC23
                by_cases c25 : 0 < (t332.size : Int)
                · rw [if_pos c25] at H
                  have c25b0 : decide (0 < (t332.size : Int)) = true := decide_eq_true c25
                  have c25b1 : decide (0 < t332.size) = true := decide_eq_true (by omega)
                  clear c25
                  (first | rw [c25b0] | (simp only [i64_w, i32_w]; rw [c25b0]) | skip)
                  by_cases c27 : (bt t332 0) = 45
                  · rw [if_pos c27] at H
                    have c27b0 : ((bt t332 0) == 45) = true := beq_iff_eq.mpr c27
                    have c27b1 : ((bt t332 0) != 45) = false := bne_eq_false_iff_eq.mpr c27
                    clear c27
                    have H' := Aside0.mk H
                    clear H
                    have p26 : 0 ≤ (0 : Int) := (by omega)
                    have q26 : 0 < t332.size := (by have : (0 : Int) < (t332.size : Int) := of_decide_eq_true (by exact phCx14_3); omega)
                    have hx26 : ∀ h : 0 < t332.size, ((t332[0]'h).toNat : Int) = bt t332 0 := bt_at t332 0
                    clear p26
                    have qi26 : (0 < (t332.size : Int)) = True := eq_true (of_decide_eq_true (by exact phCx14_3))
                    replace q26 := eq_true q26
                    exact abacuslaw15_PointPads.w3
                  · rw [if_neg c27] at H
                    have c27b0 : ((bt t332 0) == 45) = false := beq_eq_false_iff_ne.mpr c27
                    have c27b1 : ((bt t332 0) != 45) = true := bne_iff_ne.mpr c27
                    by_cases c29 : (bt t332 0) = 43
                    · rw [if_pos c29] at H
                      have c29b0 : ((bt t332 0) == 43) = true := beq_iff_eq.mpr c29
                      have c29b1 : ((bt t332 0) != 43) = false := bne_eq_false_iff_eq.mpr c29
                      clear c29
                      have H' := Aside0.mk H
                      clear H
                      have p26 : 0 ≤ (0 : Int) := (by omega)
                      have q26 : 0 < t332.size := (by have : (0 : Int) < (t332.size : Int) := of_decide_eq_true (by exact phCx14_3); omega)
                      have hx26 : ∀ h : 0 < t332.size, ((t332[0]'h).toNat : Int) = bt t332 0 := bt_at t332 0
                      clear p26
                      have qi26 : (0 < (t332.size : Int)) = True := eq_true (of_decide_eq_true (by exact phCx14_3))
                      replace q26 := eq_true q26
                      have p28 : 0 ≤ (0 : Int) := (by omega)
                      have q28 : 0 < t332.size := (by have : (0 : Int) < (t332.size : Int) := of_decide_eq_true (by exact phCx14_3); omega)
                      have hx28 : ∀ h : 0 < t332.size, ((t332[0]'h).toNat : Int) = bt t332 0 := bt_at t332 0
                      clear p28
                      have qi28 : (0 < (t332.size : Int)) = True := eq_true (of_decide_eq_true (by exact phCx14_3))
                      replace q28 := eq_true q28
                      exact abacuslaw15_PointPads.w3
                    · rw [if_neg c29] at H
                      have c29b0 : ((bt t332 0) == 43) = false := beq_eq_false_iff_ne.mpr c29
                      have c29b1 : ((bt t332 0) != 43) = true := bne_iff_ne.mpr c29
                      have H' := Aside0.mk H
                      clear H
                      have p26 : 0 ≤ (0 : Int) := (by omega)
                      have q26 : 0 < t332.size := (by have : (0 : Int) < (t332.size : Int) := of_decide_eq_true (by exact phCx14_3); omega)
                      have hx26 : ∀ h : 0 < t332.size, ((t332[0]'h).toNat : Int) = bt t332 0 := bt_at t332 0
                      clear p26
                      have qi26 : (0 < (t332.size : Int)) = True := eq_true (of_decide_eq_true (by exact phCx14_3))
                      replace q26 := eq_true q26
                      have p28 : 0 ≤ (0 : Int) := (by omega)
                      have q28 : 0 < t332.size := (by have : (0 : Int) < (t332.size : Int) := of_decide_eq_true (by exact phCx14_3); omega)
                      have hx28 : ∀ h : 0 < t332.size, ((t332[0]'h).toNat : Int) = bt t332 0 := bt_at t332 0
                      clear p28
                      have qi28 : (0 < (t332.size : Int)) = True := eq_true (of_decide_eq_true (by exact phCx14_3))
                      replace q28 := eq_true q28
                      have p30 : 0 ≤ (0 : Int) := (by omega)
                      have q30 : 0 < t332.size := (by have : (0 : Int) < (t332.size : Int) := of_decide_eq_true (by exact phCx14_3); omega)
                      have hx30 : ∀ h : 0 < t332.size, ((t332[0]'h).toNat : Int) = bt t332 0 := bt_at t332 0
                      clear p30
                      have qi30 : (0 < (t332.size : Int)) = True := eq_true (of_decide_eq_true (by exact phCx14_3))
                      replace q30 := eq_true q30
                      go_wp2
                      repeat (go_quiet (fail); try go_wp2)
                      go_meet
                      case rel => exact ⟨_, (((bt t332 0) == 32)), (by exact phCx14_5), H', ⟨by have := HJ8.out; first | omega | exact Nat.le_refl _⟩, ⟨by exact phCx14_1⟩, ⟨by exact phCx14_2⟩⟩
                · rw [if_neg c25] at H
                  exact absurd H (by simp)
              case rest =>
                clear HC23
                try clear c1
                try clear c2
                try clear p2
                try clear q2
                try clear hx2
                try clear qi2
                try clear c3
                try clear p3
                try clear q3
                try clear hx3
                try clear qi3
                try clear c4
                try clear p6
                try clear c7
                try clear c7b0
                try clear c7b1
                try clear c18
                try clear c18b0
                try clear c18b1
                try clear c19
                try clear c19b0
                try clear c19b1
                try clear c20
                try clear c21
                try clear c21b0
                try clear c25
                try clear c25b0
                try clear c25b1
                try clear p26
                try clear q26
                try clear hx26
                try clear qi26
                try clear c27
                try clear c27b0
                try clear c27b1
                try clear p28
                try clear q28
                try clear hx28
                try clear qi28
                try clear c29
                try clear c29b0
                try clear c29b1
                try clear p30
                try clear q30
                try clear hx30
                try clear qi30
                try clear hcz12_0
                try clear hcz12_1
                try clear hcz12_2
                try clear hcz12_3
                try clear hcz14_0
                try clear hcz14_1
                try clear hcz14_2
                try clear hcz14_3
                try clear hcz16_0
                try clear hcz16_1
                try clear hcz16_2
                try clear hcz16_3
                try clear hcz22_0
                try clear hcz22_1
                try clear hcz22_2
                try clear hcz22_3
                try clear hcz24_0
                try clear hcz24_1
                try clear hcz24_2
                try clear hcz24_3
                try clear hfz12_0
                try clear hfz12_1
                try clear hfz12_2
                try clear hfz12_3
                try clear hfz14_0
                try clear hfz14_1
                try clear hfz14_2
                try clear hfz14_3
                try clear hfz16_0
                try clear hfz16_1
                try clear hfz16_2
                try clear hfz16_3
                try clear hfz22_0
                try clear hfz22_1
                try clear hfz22_2
                try clear hfz22_3
                try clear hfz24_0
                try clear hfz24_1
                try clear hfz24_2
                try clear hfz24_3
                try clear p2
                try clear p26
                try clear p28
                try clear p30
                try clear q26
                try clear q28
                try clear q30
                obtain ⟨kq, x81_22, rfl, HA, HJ22, BK327, HB⟩ := hcut
                cases kq with
                | zero => exact absurd HA.out (by simp [abacuslaw15_PointPads.j1])
                | succ kj22 =>
                  have H := HA.out
                  clear HA
                  simp only [abacuslaw15_PointPads.j1] at H
                  have HC31 := Aside0.mk H
                  clear H
                  go_upto_if 81 with (fail)
                  repeat (go_quiet (fail); go_upto_if 81 with (fail))
                  go_cut [12] (fun v12 wc => ∃ (kq : Nat) (x12_30 : Int), v12 = .int .i64 x12_30 ∧ Aside0 (abacuslaw15_PointPads.j2 kq a1 t329 t332 (wrap64 (a0_2 - (t332.size : Int))) x12_30 a0_0 a0_1 a0_2 a0_3 = some r) ∧ Aside0 (kq ≤ kj22) ∧ Aside0 (wc.heap[gb327]? = some (.cells #[.int .u8 a0_0, .int .i64 a0_1, .int .i64 a0_2, .int .i64 a0_3] 23 (0, 0))) ∧ Aside0 (Below w.heap.size w wc))
                  case first =>
                    have H := HC31.out
                    clear HC31
                    by_cases c32 : x81_22 = true
                    · subst c32
                      have H1 : (abacuslaw15_PointPads.j2 kj22 a1 t329 t332 (wrap64 (a0_2 - (t332.size : Int))) 1 a0_0 a0_1 a0_2 a0_3) = some r := by rw [if_pos rfl] at H; exact H
                      clear H
                      have H := H1
                      clear H1
                      have H' := Aside0.mk H
                      clear H
                      go_wp2
                      repeat (go_quiet (fail); try go_wp2)
                      go_meet
                      case rel => exact ⟨_, (1), (by exact phCx14_5), H', ⟨by have := HJ8.out; have := HJ22.out; first | omega | exact Nat.le_refl _⟩, ⟨by exact phCx14_1⟩, ⟨by exact phCx14_2⟩⟩
                    · replace c32 := Bool.eq_false_iff.mpr c32
                      subst c32
                      have H1 : (abacuslaw15_PointPads.j2 kj22 a1 t329 t332 (wrap64 (a0_2 - (t332.size : Int))) 0 a0_0 a0_1 a0_2 a0_3) = some r := by rw [if_neg (show ¬ (false = true) by decide)] at H; exact H
                      clear H
                      have H := H1
                      clear H1
                      have H' := Aside0.mk H
                      clear H
                      go_wp2
                      repeat (go_quiet (fail); try go_wp2)
                      go_meet
                      case rel => exact ⟨_, (0), (by exact phCx14_5), H', ⟨by have := HJ8.out; have := HJ22.out; first | omega | exact Nat.le_refl _⟩, ⟨by exact phCx14_1⟩, ⟨by exact phCx14_2⟩⟩
                  case rest =>
                    clear HC31
                    try clear c1
                    try clear c2
                    try clear p2
                    try clear q2
                    try clear hx2
                    try clear qi2
                    try clear c3
                    try clear p3
                    try clear q3
                    try clear hx3
                    try clear qi3
                    try clear c4
                    try clear p6
                    try clear c7
                    try clear c7b0
                    try clear c7b1
                    try clear c18
                    try clear c18b0
                    try clear c18b1
                    try clear c19
                    try clear c19b0
                    try clear c19b1
                    try clear c20
                    try clear c21
                    try clear c21b0
                    try clear c25
                    try clear c25b0
                    try clear c25b1
                    try clear p26
                    try clear q26
                    try clear hx26
                    try clear qi26
                    try clear c27
                    try clear c27b0
                    try clear c27b1
                    try clear p28
                    try clear q28
                    try clear hx28
                    try clear qi28
                    try clear c29
                    try clear c29b0
                    try clear c29b1
                    try clear p30
                    try clear q30
                    try clear hx30
                    try clear qi30
                    try clear c32
                    try clear hcz12_0
                    try clear hcz12_1
                    try clear hcz12_2
                    try clear hcz12_3
                    try clear hcz14_0
                    try clear hcz14_1
                    try clear hcz14_2
                    try clear hcz14_3
                    try clear hcz16_0
                    try clear hcz16_1
                    try clear hcz16_2
                    try clear hcz16_3
                    try clear hcz22_0
                    try clear hcz22_1
                    try clear hcz22_2
                    try clear hcz22_3
                    try clear hcz24_0
                    try clear hcz24_1
                    try clear hcz24_2
                    try clear hcz24_3
                    try clear hfz12_0
                    try clear hfz12_1
                    try clear hfz12_2
                    try clear hfz12_3
                    try clear hfz14_0
                    try clear hfz14_1
                    try clear hfz14_2
                    try clear hfz14_3
                    try clear hfz16_0
                    try clear hfz16_1
                    try clear hfz16_2
                    try clear hfz16_3
                    try clear hfz22_0
                    try clear hfz22_1
                    try clear hfz22_2
                    try clear hfz22_3
                    try clear hfz24_0
                    try clear hfz24_1
                    try clear hfz24_2
                    try clear hfz24_3
                    try clear p2
                    try clear p26
                    try clear p28
                    try clear p3
                    try clear p30
                    try clear p6
                    try clear q2
                    try clear q26
                    try clear q28
                    try clear q3
                    try clear q30
                    obtain ⟨kq, x12_30, rfl, HA, HJ30, BK327, HB⟩ := hcut
                    cases kq with
                    | zero => exact absurd HA.out (by simp [abacuslaw15_PointPads.j2])
                    | succ kj30 =>
                      have H := HA.out
                      clear HA
                      simp only [abacuslaw15_PointPads.j2] at H
                      obtain ⟨ji33, hji33⟩ : ∃ j_ : Int, (wrap64 (a0_2 - (t332.size : Int))) = j_ := ⟨_, rfl⟩
                      replace H : (if 0 ≤ (ji33) then (if ((ji33) : Int).toNat ≤ 281474976710656 then (abacuslaw15_PointPads.l0 kj30 a1 t329 t332 (ji33) x12_30 (List.replicate ((ji33) : Int).toNat 0) 0 a0_0 a0_1 a0_2 a0_3) else (none)) else (none)) = some r := by first | (rw [hji33] at H; exact H) | (simp only [hji33] at H ⊢; exact H)
                      (try rw [hji33] at c21b0)
                      have hji33w : (IntKind.i64.wrap (a0_2 - (t332.size : Int))) = ji33 := (i64_w _).trans hji33
                      (try rw [hji33])
                      by_cases c34 : 0 ≤ (ji33)
                      · rw [if_pos c34] at H
                        have c34b0 := eq_true c34
                        have c34b1 : decide (0 ≤ (ji33)) = true := decide_eq_true c34
                        clear c34
                        by_cases c35 : ((ji33) : Int).toNat ≤ 281474976710656
                        · rw [if_pos c35] at H
                          have c35b0 := eq_true c35
                          have c35b1 : decide (((ji33) : Int).toNat ≤ 281474976710656) = true := decide_eq_true c35
                          clear c35
                          obtain ⟨y334, hy334⟩ : ∃ y_ : List Int, y_ = (List.replicate ((ji33) : Int).toNat 0) := ⟨_, rfl⟩
                          replace H : (abacuslaw15_PointPads.l0 kj30 a1 t329 t332 (ji33) x12_30 y334 0 a0_0 a0_1 a0_2 a0_3) = some r := by first | (rw [hy334]; with_reducible exact H) | (have H2_ := (Option.bind_some _ _).symm.trans H; rw [hy334]; with_reducible exact H2_) | (have H2_ := (Option.bind_some _ _).symm.trans H; with_reducible exact H2_) | with_reducible exact H | (rw [hy334]; exact H) | exact H
                          have Ny334 := Aside0.mk hy334
                          clear hy334
                          have H' := Aside0.mk H
                          clear H
                          go_wp2_with (first | ((with_reducible refine gate_dst (N := 83) rfl ?_); (try (refine gate_guard (by rfl) ?_; dsimp only)); refine Kd.R_make (Kd.int .u8) _ 5 rfl (N := 83) rfl 30 _ _ rfl (ji33) rfl rfl Tryz.underlying30 (.int .u8 0) 1 info5 rfl (by decide) (by omega) 0 (ok := fun _ => True) (okp := fun _ => True) rfl (fun _ hk => hk) trivial (of_decide_eq_true (by exact phCx14_3)) (Nat.le_trans (Nat.mul_le_mul_right _ (of_decide_eq_true (by exact phCx14_3) : (ji33).toNat ≤ 281474976710656)) (by omega)) (Below.refl _ _) (Nat.le_refl _) ?_; intro v335 w36 ho37 hb hg_ hnew_; clear hg_ hnew_; (first | rw [← Ny334.out] at ho37 | (simp only [Int.reduceToNat] at ho37; rw [← Ny334.out] at ho37)); have n0_ := Aside0.mk (Kd.R_lower ho37 (below_size (by exact phCx14_2))); have n1_ := Aside0.mk (blk_below (g := gb327) (o := .cells #[.int .u8 a0_0, .int .i64 a0_1, .int .i64 a0_2, .int .i64 a0_3] 23 (0, 0)) (by exact phCx14_1) hb); have n2_ := Aside0.mk (below_step (by exact phCx14_2) hb); clear BK327; clear HB; have HO336 := n0_; have BK327 := n1_; have HB := n2_; clear n0_ n1_ n2_; clear hb ho37))
                          repeat (go_quiet (fail); try go_wp2_with (fail))
                          go_loopg [14] kj30 (fun kq v14 w' => ∃ (x13_4 : List Int) (x14_4 : Int), v14 = .int .i64 x14_4 ∧ Aside0 (abacuslaw15_PointPads.l0 kq a1 t329 t332 (ji33) x12_30 x13_4 x14_4 a0_0 a0_1 a0_2 a0_3 = some r) ∧ Aside0 (kq ≤ kj30) ∧ Aside0 (Kd.R (Kd.int .u8) 5 w' w.heap.size (fun _ => True) v335 x13_4) ∧ Aside0 (w'.heap[gb327]? = some (.cells #[.int .u8 a0_0, .int .i64 a0_1, .int .i64 a0_2, .int .i64 a0_3] 23 (0, 0))) ∧ Aside0 (Below w.heap.size w w'))
                          case atStart => exact ⟨(y334), (0), (by exact phCx14_5), H', ⟨Nat.le_refl _⟩, ⟨by (with_reducible repeat (first | apply Kd.R_alloc | apply Kd.R_drewN | apply Kd.R_drew)); exact HO336.out⟩, ⟨by exact phCx14_1⟩, ⟨by exact phCx14_2⟩⟩
                          case round =>
                            clear H'
                            try clear c1
                            try clear c2
                            try clear p2
                            try clear q2
                            try clear hx2
                            try clear qi2
                            try clear c3
                            try clear p3
                            try clear q3
                            try clear hx3
                            try clear qi3
                            try clear c4
                            try clear p6
                            try clear c7
                            try clear c7b0
                            try clear c7b1
                            try clear c18
                            try clear c18b0
                            try clear c18b1
                            try clear c19
                            try clear c19b0
                            try clear c19b1
                            try clear c20
                            try clear c21
                            try clear c21b0
                            try clear c25
                            try clear c25b0
                            try clear c25b1
                            try clear p26
                            try clear q26
                            try clear hx26
                            try clear qi26
                            try clear c27
                            try clear c27b0
                            try clear c27b1
                            try clear p28
                            try clear q28
                            try clear hx28
                            try clear qi28
                            try clear c29
                            try clear c29b0
                            try clear c29b1
                            try clear p30
                            try clear q30
                            try clear hx30
                            try clear qi30
                            try clear c32
                            try clear c34
                            try clear c34b0
                            try clear c34b1
                            try clear c35
                            try clear c35b0
                            try clear c35b1
                            try clear hcz12_0
                            try clear hcz12_1
                            try clear hcz12_2
                            try clear hcz12_3
                            try clear hcz14_0
                            try clear hcz14_1
                            try clear hcz14_2
                            try clear hcz14_3
                            try clear hcz16_0
                            try clear hcz16_1
                            try clear hcz16_2
                            try clear hcz16_3
                            try clear hcz22_0
                            try clear hcz22_1
                            try clear hcz22_2
                            try clear hcz22_3
                            try clear hcz24_0
                            try clear hcz24_1
                            try clear hcz24_2
                            try clear hcz24_3
                            try clear hfz12_0
                            try clear hfz12_1
                            try clear hfz12_2
                            try clear hfz12_3
                            try clear hfz14_0
                            try clear hfz14_1
                            try clear hfz14_2
                            try clear hfz14_3
                            try clear hfz16_0
                            try clear hfz16_1
                            try clear hfz16_2
                            try clear hfz16_3
                            try clear hfz22_0
                            try clear hfz22_1
                            try clear hfz22_2
                            try clear hfz22_3
                            try clear hfz24_0
                            try clear hfz24_1
                            try clear hfz24_2
                            try clear hfz24_3
                            try clear p2
                            try clear p26
                            try clear p28
                            try clear p3
                            try clear p30
                            try clear p6
                            try clear q2
                            try clear q26
                            try clear q28
                            try clear q3
                            try clear q30
                            obtain ⟨x13_4, x14_4, rfl, HA, HK4, HO_13, BK327, HB⟩ := hrel
                            cases gk with
                            | zero => exact absurd HA.out (by simp [abacuslaw15_PointPads.l0])
                            | succ k4 =>
                              have H := HA.out
                              clear HA
                              simp only [abacuslaw15_PointPads.l0] at H
                              by_cases c38 : x14_4 < (ji33)
                              · rw [if_pos c38] at H
                                have c38b0 : decide (x14_4 < (ji33)) = true := decide_eq_true c38
                                clear c38
                                by_cases c39 : 0 ≤ x14_4
                                · rw [if_pos c39] at H
                                  have c39b0 : decide (0 ≤ x14_4) = true := decide_eq_true c39
                                  clear c39
                                  by_cases c40 : x14_4 < (x13_4.length : Int)
                                  · rw [if_pos c40] at H
                                    have c40b0 : decide (x14_4 < (x13_4.length : Int)) = true := decide_eq_true c40
                                    clear c40
                                    obtain ⟨y337, hy337⟩ : ∃ y_ : List Int, y_ = (x13_4.set (x14_4 : Int).toNat 32) := ⟨_, rfl⟩
                                    replace H : (if (Go.bits .and .i64 a0_1 17) = 16 then ((abacuslaw15_finite.f a1).bind fun t338 => (if t338 = true then (abacuslaw15_PointPads.l0 k4 a1 t329 t332 (ji33) x12_30 (y337.set (x14_4 : Int).toNat 48) (wrap64 (x14_4 + 1)) a0_0 a0_1 a0_2 a0_3) else (abacuslaw15_PointPads.l0 k4 a1 t329 t332 (ji33) x12_30 y337 (wrap64 (x14_4 + 1)) a0_0 a0_1 a0_2 a0_3))) else (abacuslaw15_PointPads.l0 k4 a1 t329 t332 (ji33) x12_30 y337 (wrap64 (x14_4 + 1)) a0_0 a0_1 a0_2 a0_3)) = some r := by first | (rw [hy337]; with_reducible exact H) | (have H2_ := (Option.bind_some _ _).symm.trans H; rw [hy337]; with_reducible exact H2_) | (have H2_ := (Option.bind_some _ _).symm.trans H; with_reducible exact H2_) | with_reducible exact H | (rw [hy337]; exact H) | exact H
                                    have Ny337 := Aside0.mk hy337
                                    clear hy337
                                    by_cases c42 : (Go.bits .and .i64 a0_1 17) = 16
                                    · rw [if_pos c42] at H
                                      have c42b0 : ((Go.bits .and .i64 a0_1 17) == 16) = true := beq_iff_eq.mpr c42
                                      have c42b1 : ((Go.bits .and .i64 a0_1 17) != 16) = false := bne_eq_false_iff_eq.mpr c42
                                      clear c42
                                      replace H := Option.bind_eq_some_iff.mp H
                                      obtain ⟨t338, A430, H⟩ := H
                                      try dsimp only at H
                                      have A43 := Aside0.mk A430
                                      clear A430
                                      by_cases c44 : t338 = true
                                      · subst c44
                                        have H1 : (abacuslaw15_PointPads.l0 k4 a1 t329 t332 (ji33) x12_30 (y337.set (x14_4 : Int).toNat 48) (wrap64 (x14_4 + 1)) a0_0 a0_1 a0_2 a0_3) = some r := by rw [if_pos rfl] at H; exact H
                                        clear H
                                        have H := H1
                                        clear H1
                                        obtain ⟨y339, hy339⟩ : ∃ y_ : List Int, y_ = (y337.set (x14_4 : Int).toNat 48) := ⟨_, rfl⟩
                                        replace H : (abacuslaw15_PointPads.l0 k4 a1 t329 t332 (ji33) x12_30 y339 (wrap64 (x14_4 + 1)) a0_0 a0_1 a0_2 a0_3) = some r := by first | (rw [hy339]; with_reducible exact H) | (have H2_ := (Option.bind_some _ _).symm.trans H; rw [hy339]; with_reducible exact H2_) | (have H2_ := (Option.bind_some _ _).symm.trans H; with_reducible exact H2_) | with_reducible exact H | (rw [hy339]; exact H) | exact H
                                        have Ny339 := Aside0.mk hy339
                                        clear hy339
                                        have H' := Aside0.mk H
                                        clear H
                                        have p41 : 0 ≤ (x14_4 : Int) := of_decide_eq_true (by exact phCx14_3)
                                        have q41 : (x14_4 : Int) < ((x13_4.length : Int) : Int) := of_decide_eq_true (by exact phCx14_3)
                                        obtain ⟨go41, co41, eo41, gb41, gl41, cl41, HG41⟩ := Kd.R_form HO_13.out (by omega)
                                        (first | cases eo41 | (injection eo41 with ea_ en_ ec_; (first | subst ea_ | (injection ea_ with ea_; subst ea_)); subst ec_; clear en_))
                                        have GB41 := Aside0.mk gb41
                                        have GG41 := Aside0.mk HG41
                                        clear gb41 gl41 HG41
                                        obtain ⟨hx41_0, hf41_0⟩ := Kd.R_celln 0 HO_13.out (x14_4 : Int) p41 q41
                                        replace p41 := eq_true p41
                                        replace q41 := eq_true q41
                                        have HP46 := Kd.R_putg HO_13.out (x14_4 : Int) 32
                                        go_wp2_with (first | ((with_reducible refine gate_store (t := 5) (p := 91) rfl ?_); (try (rw [drewN_self wr]; generalize hq_ : World.drewN wr _ = wr; have n0_ := Aside0.mk (Kd.R_at hq_ HO_13.out); have n1_ := Aside0.mk (blk_at hq_ BK327.out); have n2_ := Aside0.mk (below_at hq_ HB.out); clear hq_ HO_13 BK327 HB; have HO_13 := n0_; have BK327 := n1_; have HB := n2_; clear n0_ n1_ n2_; (try (have HP46 := Kd.R_putg HO_13.out (x14_4 : Int) 32)))); refine store_event (t := 5) (p := 91) (v := ?vo_w47) (w1 := (wr.setCell ⟨go41, (x14_4 : Int).toNat, none⟩ (.int .u8 32))) ?hg ?ho ?hn ?hr ?_; (case ho => rfl); (case hg => rfl); (case hn => rfl); (case hr => first | (go_simp; done) | (go_simp; rfl)); intro w47 hw; have hg : wr.grownBy w47 (some go41) := (by rw [hw]; exact HP46.2); have hp_ : Kd.R (Kd.int .u8) 5 w47 w.heap.size (fun _ => True) (.slice (some ⟨go41, 0, none⟩) x13_4.length co41) y337 := (by rw [hw, Ny337.out]; exact HP46.1); clear HP46; have n0_ := Aside0.mk (hp_); have n1_ := Aside0.mk (blk_grown (g := gb327) (o := .cells #[.int .u8 a0_0, .int .i64 a0_1, .int .i64 a0_2, .int .i64 a0_3] 23 (0, 0)) (by exact phCx14_1) hg (Kd.R_ne HO_13.out BK327.out (by decide))); have n2_ := Aside0.mk ((by rw [hw]; exact below_set (HB.out) GB41.out : Below w.heap.size w w47)); clear HO_13; clear BK327; clear HB; have HO_13 := n0_; have BK327 := n1_; have HB := n2_; clear n0_ n1_ n2_; clear hg hw hp_; have hcz48_0 : w47.cell? ⟨gb327, 0, none⟩ = some (.int .u8 a0_0) := (blk_cell BK327.out 0).trans rfl; have hcz48_1 : w47.cell? ⟨gb327, 1, none⟩ = some (.int .i64 a0_1) := (blk_cell BK327.out 1).trans rfl; have hcz48_2 : w47.cell? ⟨gb327, 2, none⟩ = some (.int .i64 a0_2) := (blk_cell BK327.out 2).trans rfl; have hcz48_3 : w47.cell? ⟨gb327, 3, none⟩ = some (.int .i64 a0_3) := (blk_cell BK327.out 3).trans rfl; have hfz48_0 := blk_frozen BK327.out 0; have hfz48_1 := blk_frozen BK327.out 1; have hfz48_2 := blk_frozen BK327.out 2; have hfz48_3 := blk_frozen BK327.out 3) | (go_at_call 16; (with_reducible refine (abacuslaw15_finite.calls a1 true _ A43.out).mono ?_); rintro e w' ⟨rfl, ⟨nd, rfl⟩⟩; (try first | exact ⟨rfl, _, World.drewN_drewN _ _ _⟩ | exact ⟨rfl, _, Eq.trans (World.drewN_drewN _ _ _) (congrArg (World.drewN _) (Nat.add_assoc _ _ _))⟩); have p45 : 0 ≤ (x14_4 : Int) := of_decide_eq_true (by exact phCx14_3); have q45 : (x14_4 : Int) < ((x13_4.length : Int) : Int) := of_decide_eq_true (by exact phCx14_3); obtain ⟨hx45_0, hf45_0⟩ := Kd.R_celln 0 HO_13.out (x14_4 : Int) p45 q45; replace p45 := eq_true p45; replace q45 := eq_true q45; obtain ⟨hy49_, hz49_⟩ := Kd.R_celln 0 HO_13.out (x14_4 : Int) (of_decide_eq_true (by exact phCx14_3)) (of_decide_eq_true (by exact phCx14_3)); have HP49 := Kd.R_putg HO_13.out (x14_4 : Int) 48) | ((with_reducible refine gate_store (t := 5) (p := 102) rfl ?_); (try (rw [drewN_self w47]; generalize hq_ : World.drewN w47 _ = w47; have n0_ := Aside0.mk (Kd.R_at hq_ HO_13.out); have n1_ := Aside0.mk (blk_at hq_ BK327.out); have n2_ := Aside0.mk (below_at hq_ HB.out); clear hq_ HO_13 BK327 HB; have HO_13 := n0_; have BK327 := n1_; have HB := n2_; clear n0_ n1_ n2_; (try (obtain ⟨hy49_, hz49_⟩ := Kd.R_celln 0 HO_13.out (x14_4 : Int) (of_decide_eq_true (by exact phCx14_3)) (of_decide_eq_true (by exact phCx14_3)))); (try (have HP49 := Kd.R_putg HO_13.out (x14_4 : Int) 48)))); refine store_event (t := 5) (p := 102) (v := ?vo_w50) (w1 := (w47.setCell ⟨go41, (x14_4 : Int).toNat, none⟩ (.int .u8 48))) ?hg ?ho ?hn ?hr ?_; (case ho => rfl); (case hg => rfl); (case hn => rfl); (case hr => first | (go_simp; done) | (go_simp; rfl)); intro w50 hw; have hg : w47.grownBy w50 (some go41) := (by rw [hw]; exact HP49.2); have hp_ : Kd.R (Kd.int .u8) 5 w50 w.heap.size (fun _ => True) (.slice (some ⟨go41, 0, none⟩) x13_4.length co41) y339 := (by rw [hw, Ny339.out]; exact HP49.1); clear HP49; have n0_ := Aside0.mk (hp_); have n1_ := Aside0.mk (blk_grown (g := gb327) (o := .cells #[.int .u8 a0_0, .int .i64 a0_1, .int .i64 a0_2, .int .i64 a0_3] 23 (0, 0)) (by exact phCx14_1) hg (Kd.R_ne HO_13.out BK327.out (by decide))); have n2_ := Aside0.mk ((by rw [hw]; exact below_set (HB.out) GB41.out : Below w.heap.size w w50)); clear HO_13; clear BK327; clear HB; have HO_13 := n0_; have BK327 := n1_; have HB := n2_; clear n0_ n1_ n2_; clear hg hw hp_))
                                        repeat (go_quiet (fail); try go_wp2_with (fail))
                                        go_roundg k4
                                        case measure => have := HJ8.out; have := HJ22.out; have := HJ30.out; have := HK4.out; omega
                                        case rel => exact ⟨(y339), (wrap64 (x14_4 + 1)), (by exact phCx14_5), H', ⟨by have := HJ8.out; have := HJ22.out; have := HJ30.out; have := HK4.out; omega⟩, ⟨by exact phCx14_7⟩, ⟨by exact phCx14_1⟩, ⟨by exact phCx14_2⟩⟩
                                      · replace c44 := Bool.eq_false_iff.mpr c44
                                        subst c44
                                        have H1 : (abacuslaw15_PointPads.l0 k4 a1 t329 t332 (ji33) x12_30 y337 (wrap64 (x14_4 + 1)) a0_0 a0_1 a0_2 a0_3) = some r := by rw [if_neg (show ¬ (false = true) by decide)] at H; exact H
                                        clear H
                                        have H := H1
                                        clear H1
                                        have H' := Aside0.mk H
                                        clear H
                                        have p41 : 0 ≤ (x14_4 : Int) := of_decide_eq_true (by exact phCx14_3)
                                        have q41 : (x14_4 : Int) < ((x13_4.length : Int) : Int) := of_decide_eq_true (by exact phCx14_3)
                                        obtain ⟨go41, co41, eo41, gb41, gl41, cl41, HG41⟩ := Kd.R_form HO_13.out (by omega)
                                        (first | cases eo41 | (injection eo41 with ea_ en_ ec_; (first | subst ea_ | (injection ea_ with ea_; subst ea_)); subst ec_; clear en_))
                                        have GB41 := Aside0.mk gb41
                                        have GG41 := Aside0.mk HG41
                                        clear gb41 gl41 HG41
                                        obtain ⟨hx41_0, hf41_0⟩ := Kd.R_celln 0 HO_13.out (x14_4 : Int) p41 q41
                                        replace p41 := eq_true p41
                                        replace q41 := eq_true q41
                                        have HP51 := Kd.R_putg HO_13.out (x14_4 : Int) 32
                                        go_wp2_with (first | ((with_reducible refine gate_store (t := 5) (p := 91) rfl ?_); (try (rw [drewN_self wr]; generalize hq_ : World.drewN wr _ = wr; have n0_ := Aside0.mk (Kd.R_at hq_ HO_13.out); have n1_ := Aside0.mk (blk_at hq_ BK327.out); have n2_ := Aside0.mk (below_at hq_ HB.out); clear hq_ HO_13 BK327 HB; have HO_13 := n0_; have BK327 := n1_; have HB := n2_; clear n0_ n1_ n2_; (try (have HP51 := Kd.R_putg HO_13.out (x14_4 : Int) 32)))); refine store_event (t := 5) (p := 91) (v := ?vo_w52) (w1 := (wr.setCell ⟨go41, (x14_4 : Int).toNat, none⟩ (.int .u8 32))) ?hg ?ho ?hn ?hr ?_; (case ho => rfl); (case hg => rfl); (case hn => rfl); (case hr => first | (go_simp; done) | (go_simp; rfl)); intro w52 hw; have hg : wr.grownBy w52 (some go41) := (by rw [hw]; exact HP51.2); have hp_ : Kd.R (Kd.int .u8) 5 w52 w.heap.size (fun _ => True) (.slice (some ⟨go41, 0, none⟩) x13_4.length co41) y337 := (by rw [hw, Ny337.out]; exact HP51.1); clear HP51; have n0_ := Aside0.mk (hp_); have n1_ := Aside0.mk (blk_grown (g := gb327) (o := .cells #[.int .u8 a0_0, .int .i64 a0_1, .int .i64 a0_2, .int .i64 a0_3] 23 (0, 0)) (by exact phCx14_1) hg (Kd.R_ne HO_13.out BK327.out (by decide))); have n2_ := Aside0.mk ((by rw [hw]; exact below_set (HB.out) GB41.out : Below w.heap.size w w52)); clear HO_13; clear BK327; clear HB; have HO_13 := n0_; have BK327 := n1_; have HB := n2_; clear n0_ n1_ n2_; clear hg hw hp_; have hcz53_0 : w52.cell? ⟨gb327, 0, none⟩ = some (.int .u8 a0_0) := (blk_cell BK327.out 0).trans rfl; have hcz53_1 : w52.cell? ⟨gb327, 1, none⟩ = some (.int .i64 a0_1) := (blk_cell BK327.out 1).trans rfl; have hcz53_2 : w52.cell? ⟨gb327, 2, none⟩ = some (.int .i64 a0_2) := (blk_cell BK327.out 2).trans rfl; have hcz53_3 : w52.cell? ⟨gb327, 3, none⟩ = some (.int .i64 a0_3) := (blk_cell BK327.out 3).trans rfl; have hfz53_0 := blk_frozen BK327.out 0; have hfz53_1 := blk_frozen BK327.out 1; have hfz53_2 := blk_frozen BK327.out 2; have hfz53_3 := blk_frozen BK327.out 3) | (go_at_call 16; (with_reducible refine (abacuslaw15_finite.calls a1 false _ A43.out).mono ?_); rintro e w' ⟨rfl, ⟨nd, rfl⟩⟩; (try first | exact ⟨rfl, _, World.drewN_drewN _ _ _⟩ | exact ⟨rfl, _, Eq.trans (World.drewN_drewN _ _ _) (congrArg (World.drewN _) (Nat.add_assoc _ _ _))⟩)))
                                        repeat (go_quiet (fail); try go_wp2_with (fail))
                                        go_roundg k4
                                        case measure => have := HJ8.out; have := HJ22.out; have := HJ30.out; have := HK4.out; omega
                                        case rel => exact ⟨(y337), (wrap64 (x14_4 + 1)), (by exact phCx14_5), H', ⟨by have := HJ8.out; have := HJ22.out; have := HJ30.out; have := HK4.out; omega⟩, ⟨by exact phCx14_7⟩, ⟨by exact phCx14_1⟩, ⟨by exact phCx14_2⟩⟩
                                    · rw [if_neg c42] at H
                                      have c42b0 : ((Go.bits .and .i64 a0_1 17) == 16) = false := beq_eq_false_iff_ne.mpr c42
                                      have c42b1 : ((Go.bits .and .i64 a0_1 17) != 16) = true := bne_iff_ne.mpr c42
                                      have H' := Aside0.mk H
                                      clear H
                                      have p41 : 0 ≤ (x14_4 : Int) := of_decide_eq_true (by exact phCx14_3)
                                      have q41 : (x14_4 : Int) < ((x13_4.length : Int) : Int) := of_decide_eq_true (by exact phCx14_3)
                                      obtain ⟨go41, co41, eo41, gb41, gl41, cl41, HG41⟩ := Kd.R_form HO_13.out (by omega)
                                      (first | cases eo41 | (injection eo41 with ea_ en_ ec_; (first | subst ea_ | (injection ea_ with ea_; subst ea_)); subst ec_; clear en_))
                                      have GB41 := Aside0.mk gb41
                                      have GG41 := Aside0.mk HG41
                                      clear gb41 gl41 HG41
                                      obtain ⟨hx41_0, hf41_0⟩ := Kd.R_celln 0 HO_13.out (x14_4 : Int) p41 q41
                                      replace p41 := eq_true p41
                                      replace q41 := eq_true q41
                                      have HP54 := Kd.R_putg HO_13.out (x14_4 : Int) 32
                                      go_wp2_with (first | ((with_reducible refine gate_store (t := 5) (p := 91) rfl ?_); (try (rw [drewN_self wr]; generalize hq_ : World.drewN wr _ = wr; have n0_ := Aside0.mk (Kd.R_at hq_ HO_13.out); have n1_ := Aside0.mk (blk_at hq_ BK327.out); have n2_ := Aside0.mk (below_at hq_ HB.out); clear hq_ HO_13 BK327 HB; have HO_13 := n0_; have BK327 := n1_; have HB := n2_; clear n0_ n1_ n2_; (try (have HP54 := Kd.R_putg HO_13.out (x14_4 : Int) 32)))); refine store_event (t := 5) (p := 91) (v := ?vo_w55) (w1 := (wr.setCell ⟨go41, (x14_4 : Int).toNat, none⟩ (.int .u8 32))) ?hg ?ho ?hn ?hr ?_; (case ho => rfl); (case hg => rfl); (case hn => rfl); (case hr => first | (go_simp; done) | (go_simp; rfl)); intro w55 hw; have hg : wr.grownBy w55 (some go41) := (by rw [hw]; exact HP54.2); have hp_ : Kd.R (Kd.int .u8) 5 w55 w.heap.size (fun _ => True) (.slice (some ⟨go41, 0, none⟩) x13_4.length co41) y337 := (by rw [hw, Ny337.out]; exact HP54.1); clear HP54; have n0_ := Aside0.mk (hp_); have n1_ := Aside0.mk (blk_grown (g := gb327) (o := .cells #[.int .u8 a0_0, .int .i64 a0_1, .int .i64 a0_2, .int .i64 a0_3] 23 (0, 0)) (by exact phCx14_1) hg (Kd.R_ne HO_13.out BK327.out (by decide))); have n2_ := Aside0.mk ((by rw [hw]; exact below_set (HB.out) GB41.out : Below w.heap.size w w55)); clear HO_13; clear BK327; clear HB; have HO_13 := n0_; have BK327 := n1_; have HB := n2_; clear n0_ n1_ n2_; clear hg hw hp_; have hcz56_0 : w55.cell? ⟨gb327, 0, none⟩ = some (.int .u8 a0_0) := (blk_cell BK327.out 0).trans rfl; have hcz56_1 : w55.cell? ⟨gb327, 1, none⟩ = some (.int .i64 a0_1) := (blk_cell BK327.out 1).trans rfl; have hcz56_2 : w55.cell? ⟨gb327, 2, none⟩ = some (.int .i64 a0_2) := (blk_cell BK327.out 2).trans rfl; have hcz56_3 : w55.cell? ⟨gb327, 3, none⟩ = some (.int .i64 a0_3) := (blk_cell BK327.out 3).trans rfl; have hfz56_0 := blk_frozen BK327.out 0; have hfz56_1 := blk_frozen BK327.out 1; have hfz56_2 := blk_frozen BK327.out 2; have hfz56_3 := blk_frozen BK327.out 3))
                                      repeat (go_quiet (fail); try go_wp2_with (fail))
                                      go_roundg k4
                                      case measure => have := HJ8.out; have := HJ22.out; have := HJ30.out; have := HK4.out; omega
                                      case rel => exact ⟨(y337), (wrap64 (x14_4 + 1)), (by exact phCx14_5), H', ⟨by have := HJ8.out; have := HJ22.out; have := HJ30.out; have := HK4.out; omega⟩, ⟨by exact phCx14_7⟩, ⟨by exact phCx14_1⟩, ⟨by exact phCx14_2⟩⟩
                                  · rw [if_neg c40] at H
                                    exact absurd H (by simp)
                                · rw [if_neg c39] at H
                                  exact absurd H (by simp)
                              · rw [if_neg c38] at H
                                have c38b0 : decide (x14_4 < (ji33)) = false := decide_eq_false c38
                                clear c38
                                by_cases c57 : (Go.bits .and .i64 a0_1 1) = 0
                                · rw [if_pos c57] at H
                                  have c57b0 : ((Go.bits .and .i64 a0_1 1) == 0) = true := beq_iff_eq.mpr c57
                                  have c57b1 : ((Go.bits .and .i64 a0_1 1) != 0) = false := bne_eq_false_iff_eq.mpr c57
                                  clear c57
                                  by_cases c58 : 0 < (x13_4.length : Int)
                                  · rw [if_pos c58] at H
                                    have c58b0 : decide (0 < (x13_4.length : Int)) = true := decide_eq_true c58
                                    have c58b1 : decide (0 < x13_4.length) = true := decide_eq_true (by omega)
                                    clear c58
                                    by_cases c59 : (rd x13_4 0) = 48
                                    · rw [if_pos c59] at H
                                      have c59b0 : ((rd x13_4 0) == 48) = true := beq_iff_eq.mpr c59
                                      have c59b1 : ((rd x13_4 0) != 48) = false := bne_eq_false_iff_eq.mpr c59
                                      clear c59
                                      by_cases c60 : 0 ≤ x12_30
                                      · rw [if_pos c60] at H
                                        have c60b0 := eq_true c60
                                        have c60b1 : decide (0 ≤ x12_30) = true := decide_eq_true c60
                                        clear c60
                                        by_cases c61 : x12_30 ≤ (t332.size : Int)
                                        · rw [if_pos c61] at H
                                          have c61b0 := eq_true c61
                                          have c61b1 : decide (x12_30 ≤ (t332.size : Int)) = true := decide_eq_true c61
                                          clear c61
                                          by_cases c62 : (t332.extract 0 (x12_30 : Int).toNat).size + (strOfNums x13_4).size ≤ 9223372036854775807
                                          · rw [if_pos c62] at H
                                            have c62b0 := eq_true c62
                                            have c62b1 : decide ((t332.extract 0 (x12_30 : Int).toNat).size + (strOfNums x13_4).size ≤ 9223372036854775807) = true := decide_eq_true c62
                                            try have c62b2 : (9223372036854775807 < (t332.extract 0 (x12_30 : Int).toNat).size + (strOfNums x13_4).size) = False := eq_false (Nat.not_lt.2 c62)
                                            try have c62b8 := c62b2
                                            try simp only [ByteArray.size_append, ByteArray.size_extract, size_lit, List.size_toArray, List.length_cons, List.length_nil, Nat.reduceAdd, Nat.sub_zero, Nat.min_self] at c62b8
                                            try (rw [show min (x12_30 : Int).toNat t332.size = (x12_30 : Int).toNat from Nat.min_eq_left (Int.toNat_le.2 (of_decide_eq_true (by exact phCx14_3)))] at c62b8)
                                            try (have c62b7 := c62b8; rw [Nat.add_zero] at c62b7)
                                            try have c62b3 := c62b2
                                            try simp only [ByteArray.size_append, size_lit, List.size_toArray, List.length_cons, List.length_nil, Nat.reduceAdd] at c62b3
                                            have c63b0 := eq_true (of_decide_eq_true (by exact phCx14_3) : 0 ≤ x12_30)
                                            have c64b0 := eq_true (of_decide_eq_true (by exact phCx14_3) : x12_30 ≤ (t332.size : Int))
                                            by_cases c65 : ((t332.extract 0 (x12_30 : Int).toNat) ++ (strOfNums x13_4)).size + (t332.extract (x12_30 : Int).toNat t332.size).size ≤ 9223372036854775807
                                            · rw [if_pos c65] at H
                                              have c65b0 := eq_true c65
                                              have c65b1 : decide (((t332.extract 0 (x12_30 : Int).toNat) ++ (strOfNums x13_4)).size + (t332.extract (x12_30 : Int).toNat t332.size).size ≤ 9223372036854775807) = true := decide_eq_true c65
                                              try have c65b2 : (9223372036854775807 < ((t332.extract 0 (x12_30 : Int).toNat) ++ (strOfNums x13_4)).size + (t332.extract (x12_30 : Int).toNat t332.size).size) = False := eq_false (Nat.not_lt.2 c65)
                                              try have c65b8 := c65b2
                                              try simp only [ByteArray.size_append, ByteArray.size_extract, size_lit, List.size_toArray, List.length_cons, List.length_nil, Nat.reduceAdd, Nat.sub_zero, Nat.min_self] at c65b8
                                              try (rw [show min (x12_30 : Int).toNat t332.size = (x12_30 : Int).toNat from Nat.min_eq_left (Int.toNat_le.2 (of_decide_eq_true (by exact phCx14_3)))] at c65b8)
                                              try (have c65b7 := c65b8; rw [Nat.add_zero] at c65b7)
                                              try have c65b3 := c65b2
                                              try simp only [ByteArray.size_append, size_lit, List.size_toArray, List.length_cons, List.length_nil, Nat.reduceAdd] at c65b3
                                              obtain rfl := Option.some.inj H
                                              have hcz66_0 : wr.cell? ⟨gb327, 0, none⟩ = some (.int .u8 a0_0) := (blk_cell BK327.out 0).trans rfl
                                              have hcz66_1 : wr.cell? ⟨gb327, 1, none⟩ = some (.int .i64 a0_1) := (blk_cell BK327.out 1).trans rfl
                                              have hcz66_2 : wr.cell? ⟨gb327, 2, none⟩ = some (.int .i64 a0_2) := (blk_cell BK327.out 2).trans rfl
                                              have hcz66_3 : wr.cell? ⟨gb327, 3, none⟩ = some (.int .i64 a0_3) := (blk_cell BK327.out 3).trans rfl
                                              have hfz66_0 := blk_frozen BK327.out 0
                                              have hfz66_1 := blk_frozen BK327.out 1
                                              have hfz66_2 := blk_frozen BK327.out 2
                                              have hfz66_3 := blk_frozen BK327.out 3
                                              obtain ⟨Ao67, co67, eo67⟩ := Kd.R_slice HO_13.out
                                              subst eo67
                                              have p340 : 0 ≤ (0 : Int) := (by omega)
                                              have q340 : 0 < (x13_4.length : Int) := of_decide_eq_true (by exact phCx14_3)
                                              obtain ⟨ad340, e340, hx340_0⟩ := Kd.at_int (Kd.R_reads' HO_13.out).2.2 0 p340 q340
                                              cases e340
                                              have qi340 : (0 < x13_4.length) = True := eq_true (by omega)
                                              (try rw [show ((0 : Int)).toNat = 0 from rfl] at hx340_0)
                                              (try rw [Addr.add_zero'] at hx340_0)
                                              replace p340 := eq_true p340
                                              replace q340 := eq_true q340
                                              have hcv68 := own_string (P := Tryz.prog) Tryz.underlying30 Tryz.underlying5 Tryz.underlying9 (Kd.own_of_R HO_13.out)
                                              have hcv68q := fun n_ => own_string (P := Tryz.prog) Tryz.underlying30 Tryz.underlying5 Tryz.underlying9 (Kd.own_of_R (Kd.R_drewN HO_13.out n_))
                                              exact abacuslaw15_PointPads.w4
                                            · rw [if_neg c65] at H
                                              exact absurd H (by simp)
                                          · rw [if_neg c62] at H
                                            exact absurd H (by simp)
                                        · rw [if_neg c61] at H
                                          exact absurd H (by simp)
                                      · rw [if_neg c60] at H
                                        exact absurd H (by simp)
                                    · rw [if_neg c59] at H
                                      have c59b0 : ((rd x13_4 0) == 48) = false := beq_eq_false_iff_ne.mpr c59
                                      have c59b1 : ((rd x13_4 0) != 48) = true := bne_iff_ne.mpr c59
                                      by_cases c69 : (strOfNums x13_4).size + t332.size ≤ 9223372036854775807
                                      · rw [if_pos c69] at H
                                        have c69b0 := eq_true c69
                                        have c69b1 : decide ((strOfNums x13_4).size + t332.size ≤ 9223372036854775807) = true := decide_eq_true c69
                                        try have c69b2 : (9223372036854775807 < (strOfNums x13_4).size + t332.size) = False := eq_false (Nat.not_lt.2 c69)
                                        try have c69b3 := c69b2
                                        try simp only [ByteArray.size_append, size_lit, List.size_toArray, List.length_cons, List.length_nil, Nat.reduceAdd] at c69b3
                                        obtain rfl := Option.some.inj H
                                        have hcz70_0 : wr.cell? ⟨gb327, 0, none⟩ = some (.int .u8 a0_0) := (blk_cell BK327.out 0).trans rfl
                                        have hcz70_1 : wr.cell? ⟨gb327, 1, none⟩ = some (.int .i64 a0_1) := (blk_cell BK327.out 1).trans rfl
                                        have hcz70_2 : wr.cell? ⟨gb327, 2, none⟩ = some (.int .i64 a0_2) := (blk_cell BK327.out 2).trans rfl
                                        have hcz70_3 : wr.cell? ⟨gb327, 3, none⟩ = some (.int .i64 a0_3) := (blk_cell BK327.out 3).trans rfl
                                        have hfz70_0 := blk_frozen BK327.out 0
                                        have hfz70_1 := blk_frozen BK327.out 1
                                        have hfz70_2 := blk_frozen BK327.out 2
                                        have hfz70_3 := blk_frozen BK327.out 3
                                        obtain ⟨Ao71, co71, eo71⟩ := Kd.R_slice HO_13.out
                                        subst eo71
                                        have p340 : 0 ≤ (0 : Int) := (by omega)
                                        have q340 : 0 < (x13_4.length : Int) := of_decide_eq_true (by exact phCx14_3)
                                        obtain ⟨ad340, e340, hx340_0⟩ := Kd.at_int (Kd.R_reads' HO_13.out).2.2 0 p340 q340
                                        cases e340
                                        have qi340 : (0 < x13_4.length) = True := eq_true (by omega)
                                        (try rw [show ((0 : Int)).toNat = 0 from rfl] at hx340_0)
                                        (try rw [Addr.add_zero'] at hx340_0)
                                        replace p340 := eq_true p340
                                        replace q340 := eq_true q340
                                        have hcv72 := own_string (P := Tryz.prog) Tryz.underlying30 Tryz.underlying5 Tryz.underlying9 (Kd.own_of_R HO_13.out)
                                        have hcv72q := fun n_ => own_string (P := Tryz.prog) Tryz.underlying30 Tryz.underlying5 Tryz.underlying9 (Kd.own_of_R (Kd.R_drewN HO_13.out n_))
                                        exact abacuslaw15_PointPads.w4
                                      · rw [if_neg c69] at H
                                        exact absurd H (by simp)
                                  · rw [if_neg c58] at H
                                    exact absurd H (by simp)
                                · rw [if_neg c57] at H
                                  have c57b0 : ((Go.bits .and .i64 a0_1 1) == 0) = false := beq_eq_false_iff_ne.mpr c57
                                  have c57b1 : ((Go.bits .and .i64 a0_1 1) != 0) = true := bne_iff_ne.mpr c57
                                  by_cases c73 : t332.size + (strOfNums x13_4).size ≤ 9223372036854775807
                                  · rw [if_pos c73] at H
                                    have c73b0 := eq_true c73
                                    have c73b1 : decide (t332.size + (strOfNums x13_4).size ≤ 9223372036854775807) = true := decide_eq_true c73
                                    try have c73b2 : (9223372036854775807 < t332.size + (strOfNums x13_4).size) = False := eq_false (Nat.not_lt.2 c73)
                                    try have c73b3 := c73b2
                                    try simp only [ByteArray.size_append, size_lit, List.size_toArray, List.length_cons, List.length_nil, Nat.reduceAdd] at c73b3
                                    obtain rfl := Option.some.inj H
                                    have hcz74_0 : wr.cell? ⟨gb327, 0, none⟩ = some (.int .u8 a0_0) := (blk_cell BK327.out 0).trans rfl
                                    have hcz74_1 : wr.cell? ⟨gb327, 1, none⟩ = some (.int .i64 a0_1) := (blk_cell BK327.out 1).trans rfl
                                    have hcz74_2 : wr.cell? ⟨gb327, 2, none⟩ = some (.int .i64 a0_2) := (blk_cell BK327.out 2).trans rfl
                                    have hcz74_3 : wr.cell? ⟨gb327, 3, none⟩ = some (.int .i64 a0_3) := (blk_cell BK327.out 3).trans rfl
                                    have hfz74_0 := blk_frozen BK327.out 0
                                    have hfz74_1 := blk_frozen BK327.out 1
                                    have hfz74_2 := blk_frozen BK327.out 2
                                    have hfz74_3 := blk_frozen BK327.out 3
                                    have hcv75 := own_string (P := Tryz.prog) Tryz.underlying30 Tryz.underlying5 Tryz.underlying9 (Kd.own_of_R HO_13.out)
                                    have hcv75q := fun n_ => own_string (P := Tryz.prog) Tryz.underlying30 Tryz.underlying5 Tryz.underlying9 (Kd.own_of_R (Kd.R_drewN HO_13.out n_))
                                    exact abacuslaw15_PointPads.w4
                                  · rw [if_neg c73] at H
                                    exact absurd H (by simp)
                        · rw [if_neg c35] at H
                          exact absurd H (by simp)
                      · rw [if_neg c34] at H
                        exact absurd H (by simp)
    · rw [if_neg c7] at H
      have c7b0 : (t331 == 0) = false := beq_eq_false_iff_ne.mpr c7
      have c7b1 : (t331 != 0) = true := bne_iff_ne.mpr c7
      by_cases c76 : t330 = t331
      · rw [if_pos c76] at H
        have c76b0 : (t330 == t331) = true := beq_iff_eq.mpr c76
        have c76b1 : (t330 != t331) = false := bne_eq_false_iff_eq.mpr c76
        clear c76
        obtain rfl := Option.some.inj H
        go_enter Tryz.func3, Tryz.ntmps3
        go_wp2_with (first | ((with_reducible refine gate_dst (N := 2) rfl ?_); (try (refine gate_guard (by rfl) ?_; dsimp only)); refine box_event ?hg (N := 2) ?hd (cs := #[.int .u8 a0_0, .int .i64 a0_1, .int .i64 a0_2, .int .i64 a0_3]) (t := 23) ?hr ?_; (case hd => rfl); (case hg => rfl); (case hr => first | (go_simp; done) | (go_simp; rfl)); intro gb327 hg w77 hbox hb; have n0_ := Aside0.mk (below_step (by exact phCx14_4) hb); have n1_ := Aside0.mk (hbox); have n2_ := Aside0.mk ((by rw [hg]; exact (below_size (by exact phCx14_4)) : w.heap.size ≤ gb327)); have n3_ := Aside0.mk ((by rw [hg]; exact (below_size (by exact phCx14_4)) : w.heap.size ≤ gb327)); clear HB; have HB := n0_; have BK327 := n1_; have GW327 := n2_; have GE327 := n3_; clear n0_ n1_ n2_ n3_; clear hb hbox hg) | (go_at_call 13; (with_reducible refine (abacuslaw15_awake.calls k  true _ A3.out).mono ?_); rintro e w78 ⟨rfl, hb⟩; have n0_ := Aside0.mk (blk_below (g := gb327) (o := .cells #[.int .u8 a0_0, .int .i64 a0_1, .int .i64 a0_2, .int .i64 a0_3] 23 (0, 0)) (by exact phCx14_1) hb); have n1_ := Aside0.mk (below_step (by exact phCx14_2) hb); clear BK327; clear HB; have BK327 := n0_; have HB := n1_; clear n0_ n1_; (try clear hb); (try clear hb2); (try clear hk); (try clear hi); have hcz79_0 : w78.cell? ⟨gb327, 0, none⟩ = some (.int .u8 a0_0) := (blk_cell BK327.out 0).trans rfl; have hcz79_1 : w78.cell? ⟨gb327, 1, none⟩ = some (.int .i64 a0_1) := (blk_cell BK327.out 1).trans rfl; have hcz79_2 : w78.cell? ⟨gb327, 2, none⟩ = some (.int .i64 a0_2) := (blk_cell BK327.out 2).trans rfl; have hcz79_3 : w78.cell? ⟨gb327, 3, none⟩ = some (.int .i64 a0_3) := (blk_cell BK327.out 3).trans rfl; have hfz79_0 := blk_frozen BK327.out 0; have hfz79_1 := blk_frozen BK327.out 1; have hfz79_2 := blk_frozen BK327.out 2; have hfz79_3 := blk_frozen BK327.out 3) | (go_at_call 14; (with_reducible refine (point_Render.calls k a0_0 a0_1 a0_2 a0_3 a1 t329 t330 _ A5.out).mono ?_); rintro e w80 ⟨rfl, hb⟩; have n0_ := Aside0.mk (blk_below (g := gb327) (o := .cells #[.int .u8 a0_0, .int .i64 a0_1, .int .i64 a0_2, .int .i64 a0_3] 23 (0, 0)) (by exact phCx14_1) hb); have n1_ := Aside0.mk (below_step (by exact phCx14_2) hb); clear BK327; clear HB; have BK327 := n0_; have HB := n1_; clear n0_ n1_; (try clear hb); (try clear hb2); (try clear hk); (try clear hi); have hcz81_0 : w80.cell? ⟨gb327, 0, none⟩ = some (.int .u8 a0_0) := (blk_cell BK327.out 0).trans rfl; have hcz81_1 : w80.cell? ⟨gb327, 1, none⟩ = some (.int .i64 a0_1) := (blk_cell BK327.out 1).trans rfl; have hcz81_2 : w80.cell? ⟨gb327, 2, none⟩ = some (.int .i64 a0_2) := (blk_cell BK327.out 2).trans rfl; have hcz81_3 : w80.cell? ⟨gb327, 3, none⟩ = some (.int .i64 a0_3) := (blk_cell BK327.out 3).trans rfl; have hfz81_0 := blk_frozen BK327.out 0; have hfz81_1 := blk_frozen BK327.out 1; have hfz81_2 := blk_frozen BK327.out 2; have hfz81_3 := blk_frozen BK327.out 3) | (go_at_call 15; (with_reducible refine (abacuslaw15_wrong.calls k a0_0 a0_1 a0_2 a0_3 t331 _ A6.out).mono ?_); rintro e w82 ⟨rfl, hb⟩; have n0_ := Aside0.mk (blk_below (g := gb327) (o := .cells #[.int .u8 a0_0, .int .i64 a0_1, .int .i64 a0_2, .int .i64 a0_3] 23 (0, 0)) (by exact phCx14_1) hb); have n1_ := Aside0.mk (below_step (by exact phCx14_2) hb); clear BK327; clear HB; have BK327 := n0_; have HB := n1_; clear n0_ n1_; (try clear hb); (try clear hb2); (try clear hk); (try clear hi)))
        repeat (go_quiet (fail); try go_wp2_with (fail))
        go_ret
        exact ⟨by exact phCx14_6, by exact phCx14_2⟩
      · rw [if_neg c76] at H
        have c76b0 : (t330 == t331) = false := beq_eq_false_iff_ne.mpr c76
        have c76b1 : (t330 != t331) = true := bne_iff_ne.mpr c76
        obtain rfl := Option.some.inj H
        go_enter Tryz.func3, Tryz.ntmps3
        go_wp2_with (first | ((with_reducible refine gate_dst (N := 2) rfl ?_); (try (refine gate_guard (by rfl) ?_; dsimp only)); refine box_event ?hg (N := 2) ?hd (cs := #[.int .u8 a0_0, .int .i64 a0_1, .int .i64 a0_2, .int .i64 a0_3]) (t := 23) ?hr ?_; (case hd => rfl); (case hg => rfl); (case hr => first | (go_simp; done) | (go_simp; rfl)); intro gb327 hg w83 hbox hb; have n0_ := Aside0.mk (below_step (by exact phCx14_4) hb); have n1_ := Aside0.mk (hbox); have n2_ := Aside0.mk ((by rw [hg]; exact (below_size (by exact phCx14_4)) : w.heap.size ≤ gb327)); have n3_ := Aside0.mk ((by rw [hg]; exact (below_size (by exact phCx14_4)) : w.heap.size ≤ gb327)); clear HB; have HB := n0_; have BK327 := n1_; have GW327 := n2_; have GE327 := n3_; clear n0_ n1_ n2_ n3_; clear hb hbox hg) | (go_at_call 13; (with_reducible refine (abacuslaw15_awake.calls k  true _ A3.out).mono ?_); rintro e w84 ⟨rfl, hb⟩; have n0_ := Aside0.mk (blk_below (g := gb327) (o := .cells #[.int .u8 a0_0, .int .i64 a0_1, .int .i64 a0_2, .int .i64 a0_3] 23 (0, 0)) (by exact phCx14_1) hb); have n1_ := Aside0.mk (below_step (by exact phCx14_2) hb); clear BK327; clear HB; have BK327 := n0_; have HB := n1_; clear n0_ n1_; (try clear hb); (try clear hb2); (try clear hk); (try clear hi); have hcz85_0 : w84.cell? ⟨gb327, 0, none⟩ = some (.int .u8 a0_0) := (blk_cell BK327.out 0).trans rfl; have hcz85_1 : w84.cell? ⟨gb327, 1, none⟩ = some (.int .i64 a0_1) := (blk_cell BK327.out 1).trans rfl; have hcz85_2 : w84.cell? ⟨gb327, 2, none⟩ = some (.int .i64 a0_2) := (blk_cell BK327.out 2).trans rfl; have hcz85_3 : w84.cell? ⟨gb327, 3, none⟩ = some (.int .i64 a0_3) := (blk_cell BK327.out 3).trans rfl; have hfz85_0 := blk_frozen BK327.out 0; have hfz85_1 := blk_frozen BK327.out 1; have hfz85_2 := blk_frozen BK327.out 2; have hfz85_3 := blk_frozen BK327.out 3) | (go_at_call 14; (with_reducible refine (point_Render.calls k a0_0 a0_1 a0_2 a0_3 a1 t329 t330 _ A5.out).mono ?_); rintro e w86 ⟨rfl, hb⟩; have n0_ := Aside0.mk (blk_below (g := gb327) (o := .cells #[.int .u8 a0_0, .int .i64 a0_1, .int .i64 a0_2, .int .i64 a0_3] 23 (0, 0)) (by exact phCx14_1) hb); have n1_ := Aside0.mk (below_step (by exact phCx14_2) hb); clear BK327; clear HB; have BK327 := n0_; have HB := n1_; clear n0_ n1_; (try clear hb); (try clear hb2); (try clear hk); (try clear hi); have hcz87_0 : w86.cell? ⟨gb327, 0, none⟩ = some (.int .u8 a0_0) := (blk_cell BK327.out 0).trans rfl; have hcz87_1 : w86.cell? ⟨gb327, 1, none⟩ = some (.int .i64 a0_1) := (blk_cell BK327.out 1).trans rfl; have hcz87_2 : w86.cell? ⟨gb327, 2, none⟩ = some (.int .i64 a0_2) := (blk_cell BK327.out 2).trans rfl; have hcz87_3 : w86.cell? ⟨gb327, 3, none⟩ = some (.int .i64 a0_3) := (blk_cell BK327.out 3).trans rfl; have hfz87_0 := blk_frozen BK327.out 0; have hfz87_1 := blk_frozen BK327.out 1; have hfz87_2 := blk_frozen BK327.out 2; have hfz87_3 := blk_frozen BK327.out 3) | (go_at_call 15; (with_reducible refine (abacuslaw15_wrong.calls k a0_0 a0_1 a0_2 a0_3 t331 _ A6.out).mono ?_); rintro e w88 ⟨rfl, hb⟩; have n0_ := Aside0.mk (blk_below (g := gb327) (o := .cells #[.int .u8 a0_0, .int .i64 a0_1, .int .i64 a0_2, .int .i64 a0_3] 23 (0, 0)) (by exact phCx14_1) hb); have n1_ := Aside0.mk (below_step (by exact phCx14_2) hb); clear BK327; clear HB; have BK327 := n0_; have HB := n1_; clear n0_ n1_; (try clear hb); (try clear hb2); (try clear hk); (try clear hi)))
        repeat (go_quiet (fail); try go_wp2_with (fail))
        go_ret
        exact ⟨by exact phCx14_6, by exact phCx14_2⟩
  · replace c4 := Bool.eq_false_iff.mpr c4
    subst c4
    have H1 : (some false) = some r := by rw [if_neg (show ¬ (false = true) by decide)] at H; exact H
    clear H
    have H := H1
    clear H1
    obtain rfl := Option.some.inj H
    go_enter Tryz.func3, Tryz.ntmps3
    go_wp2_with (first | ((with_reducible refine gate_dst (N := 2) rfl ?_); (try (refine gate_guard (by rfl) ?_; dsimp only)); refine box_event ?hg (N := 2) ?hd (cs := #[.int .u8 a0_0, .int .i64 a0_1, .int .i64 a0_2, .int .i64 a0_3]) (t := 23) ?hr ?_; (case hd => rfl); (case hg => rfl); (case hr => first | (go_simp; done) | (go_simp; rfl)); intro gb327 hg w89 hbox hb; have n0_ := Aside0.mk (below_step (by exact phCx14_4) hb); have n1_ := Aside0.mk (hbox); have n2_ := Aside0.mk ((by rw [hg]; exact (below_size (by exact phCx14_4)) : w.heap.size ≤ gb327)); have n3_ := Aside0.mk ((by rw [hg]; exact (below_size (by exact phCx14_4)) : w.heap.size ≤ gb327)); clear HB; have HB := n0_; have BK327 := n1_; have GW327 := n2_; have GE327 := n3_; clear n0_ n1_ n2_ n3_; clear hb hbox hg) | (go_at_call 13; (with_reducible refine (abacuslaw15_awake.calls k  false _ A3.out).mono ?_); rintro e w90 ⟨rfl, hb⟩; have n0_ := Aside0.mk (blk_below (g := gb327) (o := .cells #[.int .u8 a0_0, .int .i64 a0_1, .int .i64 a0_2, .int .i64 a0_3] 23 (0, 0)) (by exact phCx14_1) hb); have n1_ := Aside0.mk (below_step (by exact phCx14_2) hb); clear BK327; clear HB; have BK327 := n0_; have HB := n1_; clear n0_ n1_; (try clear hb); (try clear hb2); (try clear hk); (try clear hi)))
    repeat (go_quiet (fail); try go_wp2_with (fail))
    go_ret
    exact ⟨by exact phCx14_6, by exact phCx14_2⟩

end Go.Proofs.YtgbjojokjekmhaaGreatDoor.PXC
