/- The machine's side of a law, printed by a program of this session out of the translation; conditions: none. -/
import Derived.Test.YtoanmnhkhookfaaGreatDoorPXRelateTextsx0
namespace Go.Proofs.YtoanmnhkhookfaaGreatDoor.PXRelateTexts
open Go.Proofs.YtoanmnhkhookfaaGreatDoor
open Go.RowKit Go.Proofs.YtoanmnhkhookfaaGreatDoorW.PrintWords Go.Proofs.YtoanmnhkhookfaaGreatDoorW.PrintLast Go.Proofs.YtoanmnhkhookfaaGreatDoorW.PrintMore
attribute [local go_sem] max2_int min2_int max_two min_two max_three min_three max_four min_four   -- for this text's walks alone
set_option linter.unusedVariables false
set_option linter.unusedSimpArgs false

theorem phTextsx1_1 {P : Prop} (h : P := by repeat (first | (with_reducible first | exact HB.out | apply below_alloc | apply pw_below_drewN | apply below_drew1) | exact HB.out)) : P := h
theorem phTextsx1_2 {P : Prop} (h : P := by first | (with_reducible exact HG) | exact ⟨GW.below HG.out (by repeat (first | (with_reducible first | exact HB.out | apply below_alloc | apply pw_below_drewN | apply below_drew1) | (with_reducible refine below_set ?_ (Aside0.out (by assumption))) | exact HB.out | exact Below.refl _ _))⟩ | exact ⟨GW.drewN HG.out _⟩ | exact ⟨GW.drew HG.out⟩ | exact ⟨GW.drewN (GW.drewN HG.out _) _⟩ | exact ⟨GW.drewN (GW.drew HG.out) _⟩) : P := h
theorem phTextsx1_3 {P : Prop} (h : P := by repeat (first | (with_reducible first | exact HB.out | apply below_alloc | apply pw_below_drewN | apply below_drew1) | (with_reducible refine below_set ?_ (Aside0.out (by assumption))) | exact HB.out | exact Below.refl _ _)) : P := h
theorem phTextsx1_4 {P : Prop} (h : P := by repeat (first | exact Drawn0.refl _ | apply Drawn0.step)) : P := h
theorem phTextsx1_5 {P : Prop} (h : P := by first | rfl | (simp; done) | (simp [*]; done)) : P := h
theorem phTextsx1_6 {P : Prop} (h : P := by (try simp only [List.map_toArray, List.map_cons, List.map_nil]); first | done | rfl | (simp only [List.length_drop, List.length_take]; rfl)) : P := h
theorem phTextsx1_7 {P : Prop} (h : P := by first | rfl | (simp [errW_none, errW_some] <;> rfl) | (simp only [append_nothing]; done) | (simp only [append_nothing]; rfl) | (simp [*, errW_none, errW_some] <;> rfl)) : P := h
theorem phTextsx1_8 {P : Prop} (h : P := by repeat (first | exact Below.refl _ _ | apply below_alloc | apply pw_below_drewN | refine below_set ?_ (Nat.le_refl _))) : P := h
theorem phTextsx1_9 {P : Prop} (h : P := by repeat (first | (with_reducible first | exact HB.out | apply below_alloc | apply pw_below_drewN | apply below_drew1 | refine below_set ?_ GE112.out) | exact HB.out)) : P := h
/-! ### value_Numeric: function 21 -/
def value_Numeric.f (a0_0 : Int) (a0_1 : Int) (a0_2 : ByteArray) : Option Bool := some (decide (a0_0 ≠ 2))
theorem value_Numeric.calls (a0_0 : Int) (a0_1 : Int) (a0_2 : ByteArray) (r : Bool) (w : World) (h : value_Numeric.f a0_0 a0_1 a0_2 = some r) (HG : Aside0 (GW w) := by exact phTextsx1_2) :
    Calls Tryz.prog 21 #[.agg #[.int .i64 a0_0, .int .u64 a0_1, .string a0_2]] w fun e w' => e = .returned (.bool r) ∧ Below w.heap.size w w' := by
  cases h
  by_cases c1 : a0_0 = 1
  · subst c1
    exact (Numeric_1 a0_1 a0_2 w).mono fun e w' hh => ⟨by rw [hh.1]; rfl, hh.2⟩
  · by_cases c2 : a0_0 = 2
    · subst c2
      exact (Numeric_2 a0_1 a0_2 w).mono fun e w' hh => ⟨by rw [hh.1]; rfl, hh.2⟩
    · by_cases c3 : a0_0 = 3
      · subst c3
        exact (Numeric_3 a0_1 a0_2 w).mono fun e w' hh => ⟨by rw [hh.1]; rfl, hh.2⟩
      · have d1 : (a0_0 == 1) = false := beq_eq_false_iff_ne.mpr c1
        have d2 : (a0_0 == 2) = false := beq_eq_false_iff_ne.mpr c2
        have d3 : (a0_0 == 3) = false := beq_eq_false_iff_ne.mpr c3
        exact (Numeric_0 a0_0 a0_1 a0_2 w d1 d2 d3).mono fun e w' hh => ⟨by rw [hh.1, decide_eq_true c2], hh.2⟩

/-! ### ieee_Abs: function 102 -/
def ieee_Abs.f (a0 : Int) : Option (Int) := some (Go.bits .andNot .u64 a0 9223372036854775808)
set_option maxHeartbeats 8000000 in
set_option maxRecDepth 100000 in
theorem ieee_Abs.calls (a0 : Int) (r : Int) (w : World) (h : ieee_Abs.f a0 = some r) (HG : Aside0 (GW w) := by exact phTextsx1_2) :
    Calls Tryz.prog 102 #[.int .u64 a0] w fun e w' => e = .returned (.int .u64 r) ∧ Drawn0 w w' := by
  have H : (some (Go.bits .andNot .u64 a0 9223372036854775808)) = some r := h
  clear h
  obtain rfl := Option.some.inj H
  go_enter Tryz.func102, Tryz.ntmps102
  go_wp2
  go_ret
  exact ⟨by exact phTextsx1_5, by exact phTextsx1_4⟩

/-! ### ieee_Rank: function 82 -/
def ieee_Rank.f (a0 : Int) : Option (Int × Bool) := (ieee_Abs.f a0).bind fun t101 => (if (wrap64 (t101)) > 9218868437227405312 then (some (0, false)) else (if (Go.bits .and .u64 a0 9223372036854775808) = 0 then (some (wrap64 (t101), true)) else (some (wrap64 (-(wrap64 (t101))), true))))
theorem ieee_Rank.w1 {P : Prop} (h : P := by
  go_enter Tryz.func82, Tryz.ntmps82
  go_wp2_with (first | ((with_reducible refine gate_callee (f := 102) rfl ?_); refine goesL_ (some 6) rfl rfl Tryz.func102 (by kernel_rfl) rfl #[.int .u64 a0] rfl (by exact phTextsx1_6) ?_; (with_reducible refine (ieee_Abs.calls a0 t101 _ A2.out).mono ?_); rintro e w' ⟨rfl, ⟨nd, rfl⟩⟩; refine ⟨_, rfl, ?_⟩))
  go_ret2
  exact ⟨by exact phTextsx1_5, by exact phTextsx1_4⟩) : P := h
set_option maxHeartbeats 8000000 in
set_option maxRecDepth 100000 in
theorem ieee_Rank.calls (a0 : Int) (r1 : Int) (r2 : Bool) (w : World) (h : ieee_Rank.f a0 = some (r1, r2)) (HG : Aside0 (GW w) := by exact phTextsx1_2) :
    Calls Tryz.prog 82 #[.int .u64 a0] w fun e w' => e = .returned (.tuple #[.int .i64 r1, .bool r2]) ∧ Drawn0 w w' := by
  have H : ((ieee_Abs.f a0).bind fun t101 => (if (wrap64 (t101)) > 9218868437227405312 then (some (0, false)) else (if (Go.bits .and .u64 a0 9223372036854775808) = 0 then (some (wrap64 (t101), true)) else (some (wrap64 (-(wrap64 (t101))), true))))) = some (r1, r2) := h
  clear h
  replace H := Option.bind_eq_some_iff.mp H
  obtain ⟨t101, A20, H⟩ := H
  try dsimp only at H
  have A2 := Aside0.mk A20
  clear A20
  by_cases c3 : (wrap64 (t101)) > 9218868437227405312
  · rw [if_pos c3] at H
    have c3b0 : decide (9218868437227405312 < (wrap64 (t101))) = true := decide_eq_true c3
    clear c3
    simp only [Option.some.injEq, Prod.mk.injEq] at H
    obtain ⟨rfl, rfl⟩ := H
    exact ieee_Rank.w1
  · rw [if_neg c3] at H
    have c3b0 : decide (9218868437227405312 < (wrap64 (t101))) = false := decide_eq_false c3
    clear c3
    by_cases c4 : (Go.bits .and .u64 a0 9223372036854775808) = 0
    · rw [if_pos c4] at H
      have c4b0 : ((Go.bits .and .u64 a0 9223372036854775808) == 0) = true := beq_iff_eq.mpr c4
      have c4b1 : ((Go.bits .and .u64 a0 9223372036854775808) != 0) = false := bne_eq_false_iff_eq.mpr c4
      clear c4
      simp only [Option.some.injEq, Prod.mk.injEq] at H
      obtain ⟨rfl, rfl⟩ := H
      exact ieee_Rank.w1
    · rw [if_neg c4] at H
      have c4b0 : ((Go.bits .and .u64 a0 9223372036854775808) == 0) = false := beq_eq_false_iff_ne.mpr c4
      have c4b1 : ((Go.bits .and .u64 a0 9223372036854775808) != 0) = true := bne_iff_ne.mpr c4
      simp only [Option.some.injEq, Prod.mk.injEq] at H
      obtain ⟨rfl, rfl⟩ := H
      exact ieee_Rank.w1

/-! ### ieee_order: function 83 -/
def ieee_order.f (a0 : Int) (a1 : Int) : Option (Int) := if a0 < a1 then (some (-1)) else (if a0 > a1 then (some 1) else (some 0))
theorem ieee_order.w1 {P : Prop} (h : P := by
  go_enter Tryz.func83, Tryz.ntmps83
  go_wp2
  go_ret
  exact ⟨by exact phTextsx1_5, by exact phTextsx1_4⟩) : P := h
set_option maxHeartbeats 8000000 in
set_option maxRecDepth 100000 in
theorem ieee_order.calls (a0 : Int) (a1 : Int) (r : Int) (w : World) (h : ieee_order.f a0 a1 = some r) (HG : Aside0 (GW w) := by exact phTextsx1_2) :
    Calls Tryz.prog 83 #[.int .i64 a0, .int .i64 a1] w fun e w' => e = .returned (.int .i64 r) ∧ Drawn0 w w' := by
  have H : (if a0 < a1 then (some (-1)) else (if a0 > a1 then (some 1) else (some 0))) = some r := h
  clear h
  by_cases c3 : a0 < a1
  · rw [if_pos c3] at H
    have c3b0 : decide (a0 < a1) = true := decide_eq_true c3
    clear c3
    obtain rfl := Option.some.inj H
    exact ieee_order.w1
  · rw [if_neg c3] at H
    have c3b0 : decide (a0 < a1) = false := decide_eq_false c3
    clear c3
    by_cases c4 : a0 > a1
    · rw [if_pos c4] at H
      have c4b0 : decide (a1 < a0) = true := decide_eq_true c4
      clear c4
      obtain rfl := Option.some.inj H
      exact ieee_order.w1
    · rw [if_neg c4] at H
      have c4b0 : decide (a1 < a0) = false := decide_eq_false c4
      clear c4
      obtain rfl := Option.some.inj H
      exact ieee_order.w1

/-! ### ieee_Compare: function 59 -/
def ieee_Compare.f (a0 : Int) (a1 : Int) : Option (Int × Bool) := (ieee_Rank.f a0).bind fun bt102 => ((ieee_Rank.f a1).bind fun bt104 => (if bt102.2 = true then (if bt104.2 = true then ((ieee_order.f bt102.1 bt104.1).bind fun t106 => (some (t106, true))) else (some (0, false))) else (some (0, false))))
theorem ieee_Compare.w1 {P : Prop} (h : P := by
  go_enter Tryz.func59, Tryz.ntmps59
  go_wp2_with (first | ((with_reducible refine gate_callee (f := 82) rfl ?_); refine goesL_ (some 12) rfl rfl Tryz.func82 (by kernel_rfl) rfl #[.int .u64 a0] rfl (by exact phTextsx1_6) ?_; (with_reducible refine (ieee_Rank.calls a0 t102 true _ A3.out).mono ?_); rintro e w' ⟨rfl, ⟨nd, rfl⟩⟩; refine ⟨_, rfl, ?_⟩) | ((with_reducible refine gate_callee (f := 82) rfl ?_); refine goesL_ (some 17) rfl rfl Tryz.func82 (by kernel_rfl) rfl #[.int .u64 a1] rfl (by exact phTextsx1_6) ?_; (with_reducible refine (ieee_Rank.calls a1 t104 true _ A4.out).mono ?_); rintro e w' ⟨rfl, ⟨nd, rfl⟩⟩; refine ⟨_, rfl, ?_⟩) | ((with_reducible refine gate_callee (f := 83) rfl ?_); refine goesL_ (some 28) rfl rfl Tryz.func83 (by kernel_rfl) rfl #[.int .i64 t102, .int .i64 t104] rfl (by exact phTextsx1_6) ?_; (with_reducible refine (ieee_order.calls t102 t104 t106 _ A7.out).mono ?_); rintro e w' ⟨rfl, ⟨nd, rfl⟩⟩; refine ⟨_, rfl, ?_⟩) | ((with_reducible refine gate_callee (f := 82) rfl ?_); refine goesL_ (some 17) rfl rfl Tryz.func82 (by kernel_rfl) rfl #[.int .u64 a1] rfl (by exact phTextsx1_6) ?_; (with_reducible refine (ieee_Rank.calls a1 t104 false _ A4.out).mono ?_); rintro e w' ⟨rfl, ⟨nd, rfl⟩⟩; refine ⟨_, rfl, ?_⟩) | ((with_reducible refine gate_callee (f := 82) rfl ?_); refine goesL_ (some 12) rfl rfl Tryz.func82 (by kernel_rfl) rfl #[.int .u64 a0] rfl (by exact phTextsx1_6) ?_; (with_reducible refine (ieee_Rank.calls a0 t102 false _ A3.out).mono ?_); rintro e w' ⟨rfl, ⟨nd, rfl⟩⟩; refine ⟨_, rfl, ?_⟩) | ((with_reducible refine gate_callee (f := 82) rfl ?_); refine goesL_ (some 17) rfl rfl Tryz.func82 (by kernel_rfl) rfl #[.int .u64 a1] rfl (by exact phTextsx1_6) ?_; (with_reducible refine (ieee_Rank.calls a1 t104 t105 _ A4.out).mono ?_); rintro e w' ⟨rfl, ⟨nd, rfl⟩⟩; refine ⟨_, rfl, ?_⟩))
  go_ret2
  exact ⟨by exact phTextsx1_5, by exact phTextsx1_4⟩) : P := h
set_option maxHeartbeats 8000000 in
set_option maxRecDepth 100000 in
theorem ieee_Compare.calls (a0 : Int) (a1 : Int) (r1 : Int) (r2 : Bool) (w : World) (h : ieee_Compare.f a0 a1 = some (r1, r2)) (HG : Aside0 (GW w) := by exact phTextsx1_2) :
    Calls Tryz.prog 59 #[.int .u64 a0, .int .u64 a1] w fun e w' => e = .returned (.tuple #[.int .i64 r1, .bool r2]) ∧ Drawn0 w w' := by
  have H : ((ieee_Rank.f a0).bind fun bt102 => ((ieee_Rank.f a1).bind fun bt104 => (if bt102.2 = true then (if bt104.2 = true then ((ieee_order.f bt102.1 bt104.1).bind fun t106 => (some (t106, true))) else (some (0, false))) else (some (0, false))))) = some (r1, r2) := h
  clear h
  replace H := Option.bind_eq_some_iff.mp H
  obtain ⟨⟨t102, t103⟩, A30, H⟩ := H
  try dsimp only at H
  have A3 := Aside0.mk A30
  clear A30
  replace H := Option.bind_eq_some_iff.mp H
  obtain ⟨⟨t104, t105⟩, A40, H⟩ := H
  try dsimp only at H
  have A4 := Aside0.mk A40
  clear A40
  by_cases c5 : t103 = true
  · subst c5
    have H1 : (if t105 = true then ((ieee_order.f t102 t104).bind fun t106 => (some (t106, true))) else (some (0, false))) = some (r1, r2) := by rw [if_pos rfl] at H; exact H
    clear H
    have H := H1
    clear H1
    by_cases c6 : t105 = true
    · subst c6
      have H1 : ((ieee_order.f t102 t104).bind fun t106 => (some (t106, true))) = some (r1, r2) := by rw [if_pos rfl] at H; exact H
      clear H
      have H := H1
      clear H1
      replace H := Option.bind_eq_some_iff.mp H
      obtain ⟨t106, A70, H⟩ := H
      try dsimp only at H
      have A7 := Aside0.mk A70
      clear A70
      simp only [Option.some.injEq, Prod.mk.injEq] at H
      obtain ⟨rfl, rfl⟩ := H
      exact ieee_Compare.w1
    · replace c6 := Bool.eq_false_iff.mpr c6
      subst c6
      have H1 : (some (0, false)) = some (r1, r2) := by rw [if_neg (show ¬ (false = true) by decide)] at H; exact H
      clear H
      have H := H1
      clear H1
      simp only [Option.some.injEq, Prod.mk.injEq] at H
      obtain ⟨rfl, rfl⟩ := H
      exact ieee_Compare.w1
  · replace c5 := Bool.eq_false_iff.mpr c5
    subst c5
    have H1 : (some (0, false)) = some (r1, r2) := by rw [if_neg (show ¬ (false = true) by decide)] at H; exact H
    clear H
    have H := H1
    clear H1
    simp only [Option.some.injEq, Prod.mk.injEq] at H
    obtain ⟨rfl, rfl⟩ := H
    exact ieee_Compare.w1

/-! ### value_ToNum: function 60 -/
def value_ToNum.f (a0_0 : Int) (a0_1 : Int) (a0_2 : ByteArray) : Option Int := if a0_0 = 2 then none else some (if a0_0 = 1 ∨ a0_0 = 3 then a0_1 else 0)
theorem value_ToNum.calls (a0_0 : Int) (a0_1 : Int) (a0_2 : ByteArray) (r : Int) (w : World) (h : value_ToNum.f a0_0 a0_1 a0_2 = some r) (HG : Aside0 (GW w) := by exact phTextsx1_2) :
    Calls Tryz.prog 60 #[.agg #[.int .i64 a0_0, .int .u64 a0_1, .string a0_2]] w fun e w' => e = .returned (.int .u64 r) ∧ Below w.heap.size w w' := by
  unfold value_ToNum.f at h
  by_cases c1 : a0_0 = 1
  · subst c1
    cases h
    exact (ToNum_1 a0_1 a0_2 w)
  · by_cases c2 : a0_0 = 2
    · subst c2
      cases h
    · by_cases c3 : a0_0 = 3
      · subst c3
        cases h
        exact (ToNum_3 a0_1 a0_2 w)
      · have d1 : (a0_0 == 1) = false := beq_eq_false_iff_ne.mpr c1
        have d2 : (a0_0 == 2) = false := beq_eq_false_iff_ne.mpr c2
        have d3 : (a0_0 == 3) = false := beq_eq_false_iff_ne.mpr c3
        rw [if_neg c2, if_neg (by omega)] at h
        cases h
        exact (ToNum_0 a0_0 a0_1 a0_2 w d1 d2 d3)

/-! ### ieee_Class: function 86 -/
def ieee_Class.f (a0 : Int) : Option (Int) := (ieee_Abs.f a0).bind fun t107 => (if t107 = 0 then (some 0) else (if t107 < 4503599627370496 then (some 1) else (if t107 < 9218868437227405312 then (some 2) else (if t107 = 9218868437227405312 then (some 3) else (some 4)))))
theorem ieee_Class.w1 {P : Prop} (h : P := by
  go_enter Tryz.func86, Tryz.ntmps86
  go_wp2_with (first | ((with_reducible refine gate_callee (f := 102) rfl ?_); refine goesL_ (some 4) rfl rfl Tryz.func102 (by kernel_rfl) rfl #[.int .u64 a0] rfl (by exact phTextsx1_6) ?_; (with_reducible refine (ieee_Abs.calls a0 t107 _ A2.out).mono ?_); rintro e w' ⟨rfl, ⟨nd, rfl⟩⟩; refine ⟨_, rfl, ?_⟩))
  go_ret
  exact ⟨by exact phTextsx1_5, by exact phTextsx1_4⟩) : P := h
set_option maxHeartbeats 8000000 in
set_option maxRecDepth 100000 in
theorem ieee_Class.calls (a0 : Int) (r : Int) (w : World) (h : ieee_Class.f a0 = some r) (HG : Aside0 (GW w) := by exact phTextsx1_2) :
    Calls Tryz.prog 86 #[.int .u64 a0] w fun e w' => e = .returned (.int .i64 r) ∧ Drawn0 w w' := by
  have H : ((ieee_Abs.f a0).bind fun t107 => (if t107 = 0 then (some 0) else (if t107 < 4503599627370496 then (some 1) else (if t107 < 9218868437227405312 then (some 2) else (if t107 = 9218868437227405312 then (some 3) else (some 4)))))) = some r := h
  clear h
  replace H := Option.bind_eq_some_iff.mp H
  obtain ⟨t107, A20, H⟩ := H
  try dsimp only at H
  have A2 := Aside0.mk A20
  clear A20
  by_cases c3 : t107 = 0
  · rw [if_pos c3] at H
    have c3b0 : (t107 == 0) = true := beq_iff_eq.mpr c3
    have c3b1 : (t107 != 0) = false := bne_eq_false_iff_eq.mpr c3
    clear c3
    obtain rfl := Option.some.inj H
    exact ieee_Class.w1
  · rw [if_neg c3] at H
    have c3b0 : (t107 == 0) = false := beq_eq_false_iff_ne.mpr c3
    have c3b1 : (t107 != 0) = true := bne_iff_ne.mpr c3
    by_cases c4 : t107 < 4503599627370496
    · rw [if_pos c4] at H
      have c4b0 : decide (t107 < 4503599627370496) = true := decide_eq_true c4
      clear c4
      obtain rfl := Option.some.inj H
      exact ieee_Class.w1
    · rw [if_neg c4] at H
      have c4b0 : decide (t107 < 4503599627370496) = false := decide_eq_false c4
      clear c4
      by_cases c5 : t107 < 9218868437227405312
      · rw [if_pos c5] at H
        have c5b0 : decide (t107 < 9218868437227405312) = true := decide_eq_true c5
        clear c5
        obtain rfl := Option.some.inj H
        exact ieee_Class.w1
      · rw [if_neg c5] at H
        have c5b0 : decide (t107 < 9218868437227405312) = false := decide_eq_false c5
        clear c5
        by_cases c6 : t107 = 9218868437227405312
        · rw [if_pos c6] at H
          have c6b0 : (t107 == 9218868437227405312) = true := beq_iff_eq.mpr c6
          have c6b1 : (t107 != 9218868437227405312) = false := bne_eq_false_iff_eq.mpr c6
          clear c6
          obtain rfl := Option.some.inj H
          exact ieee_Class.w1
        · rw [if_neg c6] at H
          have c6b0 : (t107 == 9218868437227405312) = false := beq_eq_false_iff_ne.mpr c6
          have c6b1 : (t107 != 9218868437227405312) = true := bne_iff_ne.mpr c6
          obtain rfl := Option.some.inj H
          exact ieee_Class.w1

/-! ### ieee_Decode: function 146 -/
def ieee_Decode.f (a0 : Int) : Option (Bool × Int × Int × Int) := (ieee_Class.f a0).bind fun t150 => (if t150 = 1 then (some (((Go.bits .and .u64 a0 9223372036854775808) != 0), t150, Go.bits .and .u64 a0 4503599627370495, (-1074))) else (if t150 = 2 then (some (((Go.bits .and .u64 a0 9223372036854775808) != 0), t150, Go.bits .or .u64 4503599627370496 (Go.bits .and .u64 a0 4503599627370495), wrap64 ((wrap64 (Go.bits .and .u64 (a0 / 4503599627370496) 2047)) - 1075))) else (if t150 = 4 then (some (((Go.bits .and .u64 a0 9223372036854775808) != 0), t150, Go.bits .and .u64 a0 4503599627370495, 0)) else (some (((Go.bits .and .u64 a0 9223372036854775808) != 0), t150, 0, 0)))))
set_option maxHeartbeats 2000000 in
set_option maxRecDepth 100000 in
theorem ieee_Decode.calls (a0 : Int) (r1 : Bool) (r2 : Int) (r3 : Int) (r4 : Int) (w : World) (h : ieee_Decode.f a0 = some (r1, r2, r3, r4)) (HG : Aside0 (GW w) := by exact phTextsx1_2) :
    Calls Tryz.prog 146 #[.int .u64 a0] w fun e w' => e = .returned (.agg #[.bool r1, .int .i64 r2, .int .u64 r3, .int .i64 r4]) ∧ Below w.heap.size w w' := by
  have hu109 := Tryz.underlying216
  obtain ⟨c, hc, h⟩ := Option.bind_eq_some_iff.mp h
  have hcls : ∀ u : World, GW u → Calls Tryz.prog 86 #[.int .u64 a0] u fun e u' => e = .returned (.int .i64 c) ∧ Drawn0 u u' := fun u hu => ieee_Class.calls a0 c u hc ⟨hu⟩
  obtain ⟨b1, hb1⟩ : ∃ b, Go.bits .and .u64 a0 9223372036854775808 = b := ⟨_, rfl⟩
  obtain ⟨b2, hb2⟩ : ∃ b, Go.bits .and .u64 a0 4503599627370495 = b := ⟨_, rfl⟩
  obtain ⟨b3, hb3⟩ : ∃ b, Go.bits .or .u64 4503599627370496 b2 = b := ⟨_, rfl⟩
  rw [hb1, hb2, hb3] at h
  obtain ⟨b4, hb4⟩ : ∃ b, Go.bits .and .u64 (a0 / 4503599627370496) 2047 = b := ⟨_, rfl⟩
  rw [hb4] at h
  by_cases c3 : c = 1
  · rw [if_pos c3] at h
    have c3b0 : (c == 1) = true := beq_iff_eq.mpr c3
    clear c3
    simp only [Option.some.injEq, Prod.mk.injEq] at h
    obtain ⟨rfl, rfl, rfl, rfl⟩ := h
    go_enter Tryz.func146, Tryz.ntmps146
    go_wp2_with (go_at_call 86; refine (hcls _ (HG.out.alloc _)).mono ?_; rintro e w' ⟨rfl, ⟨nd, rfl⟩⟩)
    refine bodyPost_ret (results_cell_row rfl _ _ w.heap.size 216 #[.bool (b1 != 0), .int .i64 c, .int .u64 b2, .int .i64 (-1074)] (0, 0) _ rfl ?_ Tryz.underlying216 rfl (by kernel_rfl)) rfl ?_
    · refine blk_alloc ?_ _
      refine blk_put (cs := #[.bool (b1 != 0), .int .i64 c, .int .u64 b2, .int .i64 0]) ?_ 3 _ rfl
      refine blk_put (cs := #[.bool (b1 != 0), .int .i64 c, .int .u64 0, .int .i64 0]) ?_ 2 _ rfl
      refine blk_put (cs := #[.bool (b1 != 0), .int .i64 0, .int .u64 0, .int .i64 0]) ?_ 1 _ rfl
      refine blk_put (cs := #[.bool false, .int .i64 0, .int .u64 0, .int .i64 0]) ?_ 0 _ rfl
      refine blk_drewN ?_ _
      exact heap_alloc_new w _
    · exact ⟨rfl, by exact phTextsx1_8⟩
  · rw [if_neg c3] at h
    have c3b0 : (c == 1) = false := beq_eq_false_iff_ne.mpr c3
    clear c3
    by_cases c4 : c = 2
    · rw [if_pos c4] at h
      have c4b0 : (c == 2) = true := beq_iff_eq.mpr c4
      clear c4
      simp only [Option.some.injEq, Prod.mk.injEq] at h
      obtain ⟨rfl, rfl, rfl, rfl⟩ := h
      go_enter Tryz.func146, Tryz.ntmps146
      go_wp2_with (go_at_call 86; refine (hcls _ (HG.out.alloc _)).mono ?_; rintro e w' ⟨rfl, ⟨nd, rfl⟩⟩)
      refine bodyPost_ret (results_cell_row rfl _ _ w.heap.size 216 #[.bool (b1 != 0), .int .i64 c, .int .u64 b3, .int .i64 (wrap64 ((wrap64 b4) - 1075))] (0, 0) _ rfl ?_ Tryz.underlying216 rfl (by kernel_rfl)) rfl ?_
      · refine blk_alloc ?_ _
        refine blk_put (cs := #[.bool (b1 != 0), .int .i64 c, .int .u64 b3, .int .i64 0]) ?_ 3 _ rfl
        refine blk_put (cs := #[.bool (b1 != 0), .int .i64 c, .int .u64 0, .int .i64 0]) ?_ 2 _ rfl
        refine blk_put (cs := #[.bool (b1 != 0), .int .i64 0, .int .u64 0, .int .i64 0]) ?_ 1 _ rfl
        refine blk_put (cs := #[.bool false, .int .i64 0, .int .u64 0, .int .i64 0]) ?_ 0 _ rfl
        refine blk_drewN ?_ _
        exact heap_alloc_new w _
      · exact ⟨rfl, by exact phTextsx1_8⟩
    · rw [if_neg c4] at h
      have c4b0 : (c == 2) = false := beq_eq_false_iff_ne.mpr c4
      clear c4
      by_cases c5 : c = 4
      · rw [if_pos c5] at h
        have c5b0 : (c == 4) = true := beq_iff_eq.mpr c5
        clear c5
        simp only [Option.some.injEq, Prod.mk.injEq] at h
        obtain ⟨rfl, rfl, rfl, rfl⟩ := h
        go_enter Tryz.func146, Tryz.ntmps146
        go_wp2_with (go_at_call 86; refine (hcls _ (HG.out.alloc _)).mono ?_; rintro e w' ⟨rfl, ⟨nd, rfl⟩⟩)
        refine bodyPost_ret (results_cell_row rfl _ _ w.heap.size 216 #[.bool (b1 != 0), .int .i64 c, .int .u64 b2, .int .i64 0] (0, 0) _ rfl ?_ Tryz.underlying216 rfl (by kernel_rfl)) rfl ?_
        · refine blk_alloc ?_ _
          refine blk_put (cs := #[.bool (b1 != 0), .int .i64 c, .int .u64 b2, .int .i64 0]) ?_ 3 _ rfl
          refine blk_put (cs := #[.bool (b1 != 0), .int .i64 c, .int .u64 0, .int .i64 0]) ?_ 2 _ rfl
          refine blk_put (cs := #[.bool (b1 != 0), .int .i64 0, .int .u64 0, .int .i64 0]) ?_ 1 _ rfl
          refine blk_put (cs := #[.bool false, .int .i64 0, .int .u64 0, .int .i64 0]) ?_ 0 _ rfl
          refine blk_drewN ?_ _
          exact heap_alloc_new w _
        · exact ⟨rfl, by exact phTextsx1_8⟩
      · rw [if_neg c5] at h
        have c5b0 : (c == 4) = false := beq_eq_false_iff_ne.mpr c5
        clear c5
        simp only [Option.some.injEq, Prod.mk.injEq] at h
        obtain ⟨rfl, rfl, rfl, rfl⟩ := h
        go_enter Tryz.func146, Tryz.ntmps146
        go_wp2_with (go_at_call 86; refine (hcls _ (HG.out.alloc _)).mono ?_; rintro e w' ⟨rfl, ⟨nd, rfl⟩⟩)
        refine bodyPost_ret (results_cell_row rfl _ _ w.heap.size 216 #[.bool (b1 != 0), .int .i64 c, .int .u64 0, .int .i64 0] (0, 0) _ rfl ?_ Tryz.underlying216 rfl (by kernel_rfl)) rfl ?_
        · refine blk_alloc ?_ _
          refine blk_put (cs := #[.bool (b1 != 0), .int .i64 c, .int .u64 0, .int .i64 0]) ?_ 3 _ rfl
          refine blk_put (cs := #[.bool (b1 != 0), .int .i64 c, .int .u64 0, .int .i64 0]) ?_ 2 _ rfl
          refine blk_put (cs := #[.bool (b1 != 0), .int .i64 0, .int .u64 0, .int .i64 0]) ?_ 1 _ rfl
          refine blk_put (cs := #[.bool false, .int .i64 0, .int .u64 0, .int .i64 0]) ?_ 0 _ rfl
          refine blk_drewN ?_ _
          exact heap_alloc_new w _
        · exact ⟨rfl, by exact phTextsx1_8⟩

/-! ### bits_TrailingZeros64: function 147 -/
def bits_TrailingZeros64.f (a0 : Int) : Option Int := if 0 ≤ a0 ∧ a0 < 18446744073709551616 then some (Lib.ctz 64 a0.toNat) else none
theorem bits_TrailingZeros64.calls (a0 : Int) (r : Int) (w : World) (h : bits_TrailingZeros64.f a0 = some r) (HG : Aside0 (GW w) := by exact phTextsx1_2) :
    Calls Tryz.prog 147 #[.int .u64 a0] w fun e w' => e = .returned (.int .i64 r) ∧ Drawn0 w w' := by
  unfold bits_TrailingZeros64.f at h
  split at h
  · rename_i h0
    cases h
    obtain ⟨x, rfl⟩ : ∃ x : Nat, a0 = (x : Int) := ⟨a0.toNat, by omega⟩
    rw [Int.toNat_natCast]
    exact (Tryz.bits_TrailingZeros64 x w (by omega) (fun _ => HG.out.deBruijn)).mono fun e w' hh => ⟨hh.1, ⟨0, hh.2⟩⟩
  · cases h

/-! ### ieee_Integral: function 117 -/
def ieee_Integral.f (a0 : Int) : Option (Bool) := (ieee_Decode.f a0).bind fun bt108 => (if bt108.2.1 ≥ 3 then (some false) else (if bt108.2.2.1 = 0 then (some true) else (if bt108.2.2.2 ≥ 0 then (some true) else ((bits_TrailingZeros64.f bt108.2.2.1).bind fun t113 => (some (decide (t113 ≥ (wrap64 (-bt108.2.2.2)))))))))
set_option maxHeartbeats 8000000 in
set_option maxRecDepth 100000 in
theorem ieee_Integral.calls (a0 : Int) (r : Bool) (w : World) (h : ieee_Integral.f a0 = some r) (HG : Aside0 (GW w) := by exact phTextsx1_2) :
    Calls Tryz.prog 117 #[.int .u64 a0] w fun e w' => e = .returned (.bool r) ∧ Below w.heap.size w w' := by
  have hu216 := Tryz.underlying216
  have HB := Aside0.mk (Below.refl w.heap.size w)
  have H : ((ieee_Decode.f a0).bind fun bt108 => (if bt108.2.1 ≥ 3 then (some false) else (if bt108.2.2.1 = 0 then (some true) else (if bt108.2.2.2 ≥ 0 then (some true) else ((bits_TrailingZeros64.f bt108.2.2.1).bind fun t113 => (some (decide (t113 ≥ (wrap64 (-bt108.2.2.2)))))))))) = some r := h
  clear h
  replace H := Option.bind_eq_some_iff.mp H
  obtain ⟨⟨t108, t109, t110, t111⟩, A20, H⟩ := H
  try dsimp only at H
  have A2 := Aside0.mk A20
  clear A20
  by_cases c3 : t109 ≥ 3
  · rw [if_pos c3] at H
    have c3b0 : decide (3 ≤ t109) = true := decide_eq_true c3
    clear c3
    obtain rfl := Option.some.inj H
    go_enter Tryz.func117, Tryz.ntmps117
    go_wp2_with (first | (go_at_call 146; (with_reducible refine (ieee_Decode.calls a0 t108 t109 t110 t111 _ A2.out).mono ?_); rintro e w4 ⟨rfl, hb⟩; have n0_ := Aside0.mk (below_step (by exact phTextsx1_1) hb); clear HB; have HB := n0_; clear n0_; (try clear hb); (try clear hb2); (try clear hk); (try clear hi)) | ((with_reducible refine gate_dst (N := 3) rfl ?_); refine box_event ?hg (N := 3) ?hd (cs := #[.bool false, .int .i64 0, .int .u64 0, .int .i64 0]) (t := 216) ?hr ?_; (case hd => rfl); (case hg => rfl); (case hr => first | (go_simp; done) | (go_simp; rfl)); intro gb112 hg w5 hbox hb; have n0_ := Aside0.mk (below_step (by exact phTextsx1_1) hb); have n1_ := Aside0.mk (hbox); have n2_ := Aside0.mk ((by rw [hg]; exact (below_size (by exact phTextsx1_1)) : w.heap.size ≤ gb112)); have n3_ := Aside0.mk ((by rw [hg]; exact (below_size (by exact phTextsx1_1)) : w.heap.size ≤ gb112)); clear HB; have HB := n0_; have BK112 := n1_; have GW112 := n2_; have GE112 := n3_; clear n0_ n1_ n2_ n3_; clear hb hbox hg; have hcz6_0 : w5.cell? ⟨gb112, 0, none⟩ = some (.bool false) := (blk_cell BK112.out 0).trans rfl; have hcz6_1 : w5.cell? ⟨gb112, 1, none⟩ = some (.int .i64 0) := (blk_cell BK112.out 1).trans rfl; have hcz6_2 : w5.cell? ⟨gb112, 2, none⟩ = some (.int .u64 0) := (blk_cell BK112.out 2).trans rfl; have hcz6_3 : w5.cell? ⟨gb112, 3, none⟩ = some (.int .i64 0) := (blk_cell BK112.out 3).trans rfl; have hfz6_0 := blk_frozen BK112.out 0; have hfz6_1 := blk_frozen BK112.out 1; have hfz6_2 := blk_frozen BK112.out 2; have hfz6_3 := blk_frozen BK112.out 3))
    repeat (go_quiet (first | (go_at_call 146; (with_reducible refine (ieee_Decode.calls a0 t108 t109 t110 t111 _ A2.out).mono ?_); rintro e w4 ⟨rfl, hb⟩; have n0_ := Aside0.mk (below_step (by exact phTextsx1_1) hb); clear HB; have HB := n0_; clear n0_; (try clear hb); (try clear hb2); (try clear hk); (try clear hi)) | ((with_reducible refine gate_dst (N := 3) rfl ?_); refine box_event ?hg (N := 3) ?hd (cs := #[.bool false, .int .i64 0, .int .u64 0, .int .i64 0]) (t := 216) ?hr ?_; (case hd => rfl); (case hg => rfl); (case hr => first | (go_simp; done) | (go_simp; rfl)); intro gb112 hg w5 hbox hb; have n0_ := Aside0.mk (below_step (by exact phTextsx1_1) hb); have n1_ := Aside0.mk (hbox); have n2_ := Aside0.mk ((by rw [hg]; exact (below_size (by exact phTextsx1_1)) : w.heap.size ≤ gb112)); have n3_ := Aside0.mk ((by rw [hg]; exact (below_size (by exact phTextsx1_1)) : w.heap.size ≤ gb112)); clear HB; have HB := n0_; have BK112 := n1_; have GW112 := n2_; have GE112 := n3_; clear n0_ n1_ n2_ n3_; clear hb hbox hg; have hcz6_0 : w5.cell? ⟨gb112, 0, none⟩ = some (.bool false) := (blk_cell BK112.out 0).trans rfl; have hcz6_1 : w5.cell? ⟨gb112, 1, none⟩ = some (.int .i64 0) := (blk_cell BK112.out 1).trans rfl; have hcz6_2 : w5.cell? ⟨gb112, 2, none⟩ = some (.int .u64 0) := (blk_cell BK112.out 2).trans rfl; have hcz6_3 : w5.cell? ⟨gb112, 3, none⟩ = some (.int .i64 0) := (blk_cell BK112.out 3).trans rfl; have hfz6_0 := blk_frozen BK112.out 0; have hfz6_1 := blk_frozen BK112.out 1; have hfz6_2 := blk_frozen BK112.out 2; have hfz6_3 := blk_frozen BK112.out 3)); try go_wp2_with (first | (go_at_call 146; (with_reducible refine (ieee_Decode.calls a0 t108 t109 t110 t111 _ A2.out).mono ?_); rintro e w4 ⟨rfl, hb⟩; have n0_ := Aside0.mk (below_step (by exact phTextsx1_1) hb); clear HB; have HB := n0_; clear n0_; (try clear hb); (try clear hb2); (try clear hk); (try clear hi)) | ((with_reducible refine gate_dst (N := 3) rfl ?_); refine box_event ?hg (N := 3) ?hd (cs := #[.bool false, .int .i64 0, .int .u64 0, .int .i64 0]) (t := 216) ?hr ?_; (case hd => rfl); (case hg => rfl); (case hr => first | (go_simp; done) | (go_simp; rfl)); intro gb112 hg w5 hbox hb; have n0_ := Aside0.mk (below_step (by exact phTextsx1_1) hb); have n1_ := Aside0.mk (hbox); have n2_ := Aside0.mk ((by rw [hg]; exact (below_size (by exact phTextsx1_1)) : w.heap.size ≤ gb112)); have n3_ := Aside0.mk ((by rw [hg]; exact (below_size (by exact phTextsx1_1)) : w.heap.size ≤ gb112)); clear HB; have HB := n0_; have BK112 := n1_; have GW112 := n2_; have GE112 := n3_; clear n0_ n1_ n2_ n3_; clear hb hbox hg; have hcz6_0 : w5.cell? ⟨gb112, 0, none⟩ = some (.bool false) := (blk_cell BK112.out 0).trans rfl; have hcz6_1 : w5.cell? ⟨gb112, 1, none⟩ = some (.int .i64 0) := (blk_cell BK112.out 1).trans rfl; have hcz6_2 : w5.cell? ⟨gb112, 2, none⟩ = some (.int .u64 0) := (blk_cell BK112.out 2).trans rfl; have hcz6_3 : w5.cell? ⟨gb112, 3, none⟩ = some (.int .i64 0) := (blk_cell BK112.out 3).trans rfl; have hfz6_0 := blk_frozen BK112.out 0; have hfz6_1 := blk_frozen BK112.out 1; have hfz6_2 := blk_frozen BK112.out 2; have hfz6_3 := blk_frozen BK112.out 3)))
    go_ret
    exact ⟨by exact phTextsx1_7, by exact phTextsx1_9⟩
  · rw [if_neg c3] at H
    have c3b0 : decide (3 ≤ t109) = false := decide_eq_false c3
    clear c3
    by_cases c7 : t110 = 0
    · rw [if_pos c7] at H
      have c7b0 : (t110 == 0) = true := beq_iff_eq.mpr c7
      have c7b1 : (t110 != 0) = false := bne_eq_false_iff_eq.mpr c7
      clear c7
      obtain rfl := Option.some.inj H
      go_enter Tryz.func117, Tryz.ntmps117
      go_wp2_with (first | (go_at_call 146; (with_reducible refine (ieee_Decode.calls a0 t108 t109 t110 t111 _ A2.out).mono ?_); rintro e w8 ⟨rfl, hb⟩; have n0_ := Aside0.mk (below_step (by exact phTextsx1_1) hb); clear HB; have HB := n0_; clear n0_; (try clear hb); (try clear hb2); (try clear hk); (try clear hi)) | ((with_reducible refine gate_dst (N := 3) rfl ?_); refine box_event ?hg (N := 3) ?hd (cs := #[.bool false, .int .i64 0, .int .u64 0, .int .i64 0]) (t := 216) ?hr ?_; (case hd => rfl); (case hg => rfl); (case hr => first | (go_simp; done) | (go_simp; rfl)); intro gb112 hg w9 hbox hb; have n0_ := Aside0.mk (below_step (by exact phTextsx1_1) hb); have n1_ := Aside0.mk (hbox); have n2_ := Aside0.mk ((by rw [hg]; exact (below_size (by exact phTextsx1_1)) : w.heap.size ≤ gb112)); have n3_ := Aside0.mk ((by rw [hg]; exact (below_size (by exact phTextsx1_1)) : w.heap.size ≤ gb112)); clear HB; have HB := n0_; have BK112 := n1_; have GW112 := n2_; have GE112 := n3_; clear n0_ n1_ n2_ n3_; clear hb hbox hg; have hcz10_0 : w9.cell? ⟨gb112, 0, none⟩ = some (.bool false) := (blk_cell BK112.out 0).trans rfl; have hcz10_1 : w9.cell? ⟨gb112, 1, none⟩ = some (.int .i64 0) := (blk_cell BK112.out 1).trans rfl; have hcz10_2 : w9.cell? ⟨gb112, 2, none⟩ = some (.int .u64 0) := (blk_cell BK112.out 2).trans rfl; have hcz10_3 : w9.cell? ⟨gb112, 3, none⟩ = some (.int .i64 0) := (blk_cell BK112.out 3).trans rfl; have hfz10_0 := blk_frozen BK112.out 0; have hfz10_1 := blk_frozen BK112.out 1; have hfz10_2 := blk_frozen BK112.out 2; have hfz10_3 := blk_frozen BK112.out 3))
      repeat (go_quiet (first | (go_at_call 146; (with_reducible refine (ieee_Decode.calls a0 t108 t109 t110 t111 _ A2.out).mono ?_); rintro e w8 ⟨rfl, hb⟩; have n0_ := Aside0.mk (below_step (by exact phTextsx1_1) hb); clear HB; have HB := n0_; clear n0_; (try clear hb); (try clear hb2); (try clear hk); (try clear hi)) | ((with_reducible refine gate_dst (N := 3) rfl ?_); refine box_event ?hg (N := 3) ?hd (cs := #[.bool false, .int .i64 0, .int .u64 0, .int .i64 0]) (t := 216) ?hr ?_; (case hd => rfl); (case hg => rfl); (case hr => first | (go_simp; done) | (go_simp; rfl)); intro gb112 hg w9 hbox hb; have n0_ := Aside0.mk (below_step (by exact phTextsx1_1) hb); have n1_ := Aside0.mk (hbox); have n2_ := Aside0.mk ((by rw [hg]; exact (below_size (by exact phTextsx1_1)) : w.heap.size ≤ gb112)); have n3_ := Aside0.mk ((by rw [hg]; exact (below_size (by exact phTextsx1_1)) : w.heap.size ≤ gb112)); clear HB; have HB := n0_; have BK112 := n1_; have GW112 := n2_; have GE112 := n3_; clear n0_ n1_ n2_ n3_; clear hb hbox hg; have hcz10_0 : w9.cell? ⟨gb112, 0, none⟩ = some (.bool false) := (blk_cell BK112.out 0).trans rfl; have hcz10_1 : w9.cell? ⟨gb112, 1, none⟩ = some (.int .i64 0) := (blk_cell BK112.out 1).trans rfl; have hcz10_2 : w9.cell? ⟨gb112, 2, none⟩ = some (.int .u64 0) := (blk_cell BK112.out 2).trans rfl; have hcz10_3 : w9.cell? ⟨gb112, 3, none⟩ = some (.int .i64 0) := (blk_cell BK112.out 3).trans rfl; have hfz10_0 := blk_frozen BK112.out 0; have hfz10_1 := blk_frozen BK112.out 1; have hfz10_2 := blk_frozen BK112.out 2; have hfz10_3 := blk_frozen BK112.out 3)); try go_wp2_with (first | (go_at_call 146; (with_reducible refine (ieee_Decode.calls a0 t108 t109 t110 t111 _ A2.out).mono ?_); rintro e w8 ⟨rfl, hb⟩; have n0_ := Aside0.mk (below_step (by exact phTextsx1_1) hb); clear HB; have HB := n0_; clear n0_; (try clear hb); (try clear hb2); (try clear hk); (try clear hi)) | ((with_reducible refine gate_dst (N := 3) rfl ?_); refine box_event ?hg (N := 3) ?hd (cs := #[.bool false, .int .i64 0, .int .u64 0, .int .i64 0]) (t := 216) ?hr ?_; (case hd => rfl); (case hg => rfl); (case hr => first | (go_simp; done) | (go_simp; rfl)); intro gb112 hg w9 hbox hb; have n0_ := Aside0.mk (below_step (by exact phTextsx1_1) hb); have n1_ := Aside0.mk (hbox); have n2_ := Aside0.mk ((by rw [hg]; exact (below_size (by exact phTextsx1_1)) : w.heap.size ≤ gb112)); have n3_ := Aside0.mk ((by rw [hg]; exact (below_size (by exact phTextsx1_1)) : w.heap.size ≤ gb112)); clear HB; have HB := n0_; have BK112 := n1_; have GW112 := n2_; have GE112 := n3_; clear n0_ n1_ n2_ n3_; clear hb hbox hg; have hcz10_0 : w9.cell? ⟨gb112, 0, none⟩ = some (.bool false) := (blk_cell BK112.out 0).trans rfl; have hcz10_1 : w9.cell? ⟨gb112, 1, none⟩ = some (.int .i64 0) := (blk_cell BK112.out 1).trans rfl; have hcz10_2 : w9.cell? ⟨gb112, 2, none⟩ = some (.int .u64 0) := (blk_cell BK112.out 2).trans rfl; have hcz10_3 : w9.cell? ⟨gb112, 3, none⟩ = some (.int .i64 0) := (blk_cell BK112.out 3).trans rfl; have hfz10_0 := blk_frozen BK112.out 0; have hfz10_1 := blk_frozen BK112.out 1; have hfz10_2 := blk_frozen BK112.out 2; have hfz10_3 := blk_frozen BK112.out 3)))
      go_ret
      exact ⟨by exact phTextsx1_7, by exact phTextsx1_9⟩
    · rw [if_neg c7] at H
      have c7b0 : (t110 == 0) = false := beq_eq_false_iff_ne.mpr c7
      have c7b1 : (t110 != 0) = true := bne_iff_ne.mpr c7
      by_cases c11 : t111 ≥ 0
      · rw [if_pos c11] at H
        have c11b0 : decide (0 ≤ t111) = true := decide_eq_true c11
        clear c11
        obtain rfl := Option.some.inj H
        go_enter Tryz.func117, Tryz.ntmps117
        go_wp2_with (first | (go_at_call 146; (with_reducible refine (ieee_Decode.calls a0 t108 t109 t110 t111 _ A2.out).mono ?_); rintro e w12 ⟨rfl, hb⟩; have n0_ := Aside0.mk (below_step (by exact phTextsx1_1) hb); clear HB; have HB := n0_; clear n0_; (try clear hb); (try clear hb2); (try clear hk); (try clear hi)) | ((with_reducible refine gate_dst (N := 3) rfl ?_); refine box_event ?hg (N := 3) ?hd (cs := #[.bool false, .int .i64 0, .int .u64 0, .int .i64 0]) (t := 216) ?hr ?_; (case hd => rfl); (case hg => rfl); (case hr => first | (go_simp; done) | (go_simp; rfl)); intro gb112 hg w13 hbox hb; have n0_ := Aside0.mk (below_step (by exact phTextsx1_1) hb); have n1_ := Aside0.mk (hbox); have n2_ := Aside0.mk ((by rw [hg]; exact (below_size (by exact phTextsx1_1)) : w.heap.size ≤ gb112)); have n3_ := Aside0.mk ((by rw [hg]; exact (below_size (by exact phTextsx1_1)) : w.heap.size ≤ gb112)); clear HB; have HB := n0_; have BK112 := n1_; have GW112 := n2_; have GE112 := n3_; clear n0_ n1_ n2_ n3_; clear hb hbox hg; have hcz14_0 : w13.cell? ⟨gb112, 0, none⟩ = some (.bool false) := (blk_cell BK112.out 0).trans rfl; have hcz14_1 : w13.cell? ⟨gb112, 1, none⟩ = some (.int .i64 0) := (blk_cell BK112.out 1).trans rfl; have hcz14_2 : w13.cell? ⟨gb112, 2, none⟩ = some (.int .u64 0) := (blk_cell BK112.out 2).trans rfl; have hcz14_3 : w13.cell? ⟨gb112, 3, none⟩ = some (.int .i64 0) := (blk_cell BK112.out 3).trans rfl; have hfz14_0 := blk_frozen BK112.out 0; have hfz14_1 := blk_frozen BK112.out 1; have hfz14_2 := blk_frozen BK112.out 2; have hfz14_3 := blk_frozen BK112.out 3))
        repeat (go_quiet (first | (go_at_call 146; (with_reducible refine (ieee_Decode.calls a0 t108 t109 t110 t111 _ A2.out).mono ?_); rintro e w12 ⟨rfl, hb⟩; have n0_ := Aside0.mk (below_step (by exact phTextsx1_1) hb); clear HB; have HB := n0_; clear n0_; (try clear hb); (try clear hb2); (try clear hk); (try clear hi)) | ((with_reducible refine gate_dst (N := 3) rfl ?_); refine box_event ?hg (N := 3) ?hd (cs := #[.bool false, .int .i64 0, .int .u64 0, .int .i64 0]) (t := 216) ?hr ?_; (case hd => rfl); (case hg => rfl); (case hr => first | (go_simp; done) | (go_simp; rfl)); intro gb112 hg w13 hbox hb; have n0_ := Aside0.mk (below_step (by exact phTextsx1_1) hb); have n1_ := Aside0.mk (hbox); have n2_ := Aside0.mk ((by rw [hg]; exact (below_size (by exact phTextsx1_1)) : w.heap.size ≤ gb112)); have n3_ := Aside0.mk ((by rw [hg]; exact (below_size (by exact phTextsx1_1)) : w.heap.size ≤ gb112)); clear HB; have HB := n0_; have BK112 := n1_; have GW112 := n2_; have GE112 := n3_; clear n0_ n1_ n2_ n3_; clear hb hbox hg; have hcz14_0 : w13.cell? ⟨gb112, 0, none⟩ = some (.bool false) := (blk_cell BK112.out 0).trans rfl; have hcz14_1 : w13.cell? ⟨gb112, 1, none⟩ = some (.int .i64 0) := (blk_cell BK112.out 1).trans rfl; have hcz14_2 : w13.cell? ⟨gb112, 2, none⟩ = some (.int .u64 0) := (blk_cell BK112.out 2).trans rfl; have hcz14_3 : w13.cell? ⟨gb112, 3, none⟩ = some (.int .i64 0) := (blk_cell BK112.out 3).trans rfl; have hfz14_0 := blk_frozen BK112.out 0; have hfz14_1 := blk_frozen BK112.out 1; have hfz14_2 := blk_frozen BK112.out 2; have hfz14_3 := blk_frozen BK112.out 3)); try go_wp2_with (first | (go_at_call 146; (with_reducible refine (ieee_Decode.calls a0 t108 t109 t110 t111 _ A2.out).mono ?_); rintro e w12 ⟨rfl, hb⟩; have n0_ := Aside0.mk (below_step (by exact phTextsx1_1) hb); clear HB; have HB := n0_; clear n0_; (try clear hb); (try clear hb2); (try clear hk); (try clear hi)) | ((with_reducible refine gate_dst (N := 3) rfl ?_); refine box_event ?hg (N := 3) ?hd (cs := #[.bool false, .int .i64 0, .int .u64 0, .int .i64 0]) (t := 216) ?hr ?_; (case hd => rfl); (case hg => rfl); (case hr => first | (go_simp; done) | (go_simp; rfl)); intro gb112 hg w13 hbox hb; have n0_ := Aside0.mk (below_step (by exact phTextsx1_1) hb); have n1_ := Aside0.mk (hbox); have n2_ := Aside0.mk ((by rw [hg]; exact (below_size (by exact phTextsx1_1)) : w.heap.size ≤ gb112)); have n3_ := Aside0.mk ((by rw [hg]; exact (below_size (by exact phTextsx1_1)) : w.heap.size ≤ gb112)); clear HB; have HB := n0_; have BK112 := n1_; have GW112 := n2_; have GE112 := n3_; clear n0_ n1_ n2_ n3_; clear hb hbox hg; have hcz14_0 : w13.cell? ⟨gb112, 0, none⟩ = some (.bool false) := (blk_cell BK112.out 0).trans rfl; have hcz14_1 : w13.cell? ⟨gb112, 1, none⟩ = some (.int .i64 0) := (blk_cell BK112.out 1).trans rfl; have hcz14_2 : w13.cell? ⟨gb112, 2, none⟩ = some (.int .u64 0) := (blk_cell BK112.out 2).trans rfl; have hcz14_3 : w13.cell? ⟨gb112, 3, none⟩ = some (.int .i64 0) := (blk_cell BK112.out 3).trans rfl; have hfz14_0 := blk_frozen BK112.out 0; have hfz14_1 := blk_frozen BK112.out 1; have hfz14_2 := blk_frozen BK112.out 2; have hfz14_3 := blk_frozen BK112.out 3)))
        go_ret
        exact ⟨by exact phTextsx1_7, by exact phTextsx1_9⟩
      · rw [if_neg c11] at H
        have c11b0 : decide (0 ≤ t111) = false := decide_eq_false c11
        clear c11
        replace H := Option.bind_eq_some_iff.mp H
        obtain ⟨t113, A150, H⟩ := H
        try dsimp only at H
        have A15 := Aside0.mk A150
        clear A150
        obtain rfl := Option.some.inj H
        go_enter Tryz.func117, Tryz.ntmps117
        go_wp2_with (first | (go_at_call 146; (with_reducible refine (ieee_Decode.calls a0 t108 t109 t110 t111 _ A2.out).mono ?_); rintro e w16 ⟨rfl, hb⟩; have n0_ := Aside0.mk (below_step (by exact phTextsx1_1) hb); clear HB; have HB := n0_; clear n0_; (try clear hb); (try clear hb2); (try clear hk); (try clear hi)) | ((with_reducible refine gate_dst (N := 3) rfl ?_); refine box_event ?hg (N := 3) ?hd (cs := #[.bool false, .int .i64 0, .int .u64 0, .int .i64 0]) (t := 216) ?hr ?_; (case hd => rfl); (case hg => rfl); (case hr => first | (go_simp; done) | (go_simp; rfl)); intro gb112 hg w17 hbox hb; have n0_ := Aside0.mk (below_step (by exact phTextsx1_1) hb); have n1_ := Aside0.mk (hbox); have n2_ := Aside0.mk ((by rw [hg]; exact (below_size (by exact phTextsx1_1)) : w.heap.size ≤ gb112)); have n3_ := Aside0.mk ((by rw [hg]; exact (below_size (by exact phTextsx1_1)) : w.heap.size ≤ gb112)); clear HB; have HB := n0_; have BK112 := n1_; have GW112 := n2_; have GE112 := n3_; clear n0_ n1_ n2_ n3_; clear hb hbox hg; have hcz18_0 : w17.cell? ⟨gb112, 0, none⟩ = some (.bool false) := (blk_cell BK112.out 0).trans rfl; have hcz18_1 : w17.cell? ⟨gb112, 1, none⟩ = some (.int .i64 0) := (blk_cell BK112.out 1).trans rfl; have hcz18_2 : w17.cell? ⟨gb112, 2, none⟩ = some (.int .u64 0) := (blk_cell BK112.out 2).trans rfl; have hcz18_3 : w17.cell? ⟨gb112, 3, none⟩ = some (.int .i64 0) := (blk_cell BK112.out 3).trans rfl; have hfz18_0 := blk_frozen BK112.out 0; have hfz18_1 := blk_frozen BK112.out 1; have hfz18_2 := blk_frozen BK112.out 2; have hfz18_3 := blk_frozen BK112.out 3) | (go_at_call 147; (with_reducible refine (bits_TrailingZeros64.calls t110 t113 _ A15.out).mono ?_); rintro e w' ⟨rfl, ⟨nd, rfl⟩⟩; (try first | exact ⟨rfl, _, World.drewN_drewN _ _ _⟩ | exact ⟨rfl, _, Eq.trans (World.drewN_drewN _ _ _) (congrArg (World.drewN _) (Nat.add_assoc _ _ _))⟩)))
        repeat (go_quiet (first | (go_at_call 146; (with_reducible refine (ieee_Decode.calls a0 t108 t109 t110 t111 _ A2.out).mono ?_); rintro e w16 ⟨rfl, hb⟩; have n0_ := Aside0.mk (below_step (by exact phTextsx1_1) hb); clear HB; have HB := n0_; clear n0_; (try clear hb); (try clear hb2); (try clear hk); (try clear hi)) | ((with_reducible refine gate_dst (N := 3) rfl ?_); refine box_event ?hg (N := 3) ?hd (cs := #[.bool false, .int .i64 0, .int .u64 0, .int .i64 0]) (t := 216) ?hr ?_; (case hd => rfl); (case hg => rfl); (case hr => first | (go_simp; done) | (go_simp; rfl)); intro gb112 hg w17 hbox hb; have n0_ := Aside0.mk (below_step (by exact phTextsx1_1) hb); have n1_ := Aside0.mk (hbox); have n2_ := Aside0.mk ((by rw [hg]; exact (below_size (by exact phTextsx1_1)) : w.heap.size ≤ gb112)); have n3_ := Aside0.mk ((by rw [hg]; exact (below_size (by exact phTextsx1_1)) : w.heap.size ≤ gb112)); clear HB; have HB := n0_; have BK112 := n1_; have GW112 := n2_; have GE112 := n3_; clear n0_ n1_ n2_ n3_; clear hb hbox hg; have hcz18_0 : w17.cell? ⟨gb112, 0, none⟩ = some (.bool false) := (blk_cell BK112.out 0).trans rfl; have hcz18_1 : w17.cell? ⟨gb112, 1, none⟩ = some (.int .i64 0) := (blk_cell BK112.out 1).trans rfl; have hcz18_2 : w17.cell? ⟨gb112, 2, none⟩ = some (.int .u64 0) := (blk_cell BK112.out 2).trans rfl; have hcz18_3 : w17.cell? ⟨gb112, 3, none⟩ = some (.int .i64 0) := (blk_cell BK112.out 3).trans rfl; have hfz18_0 := blk_frozen BK112.out 0; have hfz18_1 := blk_frozen BK112.out 1; have hfz18_2 := blk_frozen BK112.out 2; have hfz18_3 := blk_frozen BK112.out 3) | (go_at_call 147; (with_reducible refine (bits_TrailingZeros64.calls t110 t113 _ A15.out).mono ?_); rintro e w' ⟨rfl, ⟨nd, rfl⟩⟩; (try first | exact ⟨rfl, _, World.drewN_drewN _ _ _⟩ | exact ⟨rfl, _, Eq.trans (World.drewN_drewN _ _ _) (congrArg (World.drewN _) (Nat.add_assoc _ _ _))⟩))); try go_wp2_with (first | (go_at_call 146; (with_reducible refine (ieee_Decode.calls a0 t108 t109 t110 t111 _ A2.out).mono ?_); rintro e w16 ⟨rfl, hb⟩; have n0_ := Aside0.mk (below_step (by exact phTextsx1_1) hb); clear HB; have HB := n0_; clear n0_; (try clear hb); (try clear hb2); (try clear hk); (try clear hi)) | ((with_reducible refine gate_dst (N := 3) rfl ?_); refine box_event ?hg (N := 3) ?hd (cs := #[.bool false, .int .i64 0, .int .u64 0, .int .i64 0]) (t := 216) ?hr ?_; (case hd => rfl); (case hg => rfl); (case hr => first | (go_simp; done) | (go_simp; rfl)); intro gb112 hg w17 hbox hb; have n0_ := Aside0.mk (below_step (by exact phTextsx1_1) hb); have n1_ := Aside0.mk (hbox); have n2_ := Aside0.mk ((by rw [hg]; exact (below_size (by exact phTextsx1_1)) : w.heap.size ≤ gb112)); have n3_ := Aside0.mk ((by rw [hg]; exact (below_size (by exact phTextsx1_1)) : w.heap.size ≤ gb112)); clear HB; have HB := n0_; have BK112 := n1_; have GW112 := n2_; have GE112 := n3_; clear n0_ n1_ n2_ n3_; clear hb hbox hg; have hcz18_0 : w17.cell? ⟨gb112, 0, none⟩ = some (.bool false) := (blk_cell BK112.out 0).trans rfl; have hcz18_1 : w17.cell? ⟨gb112, 1, none⟩ = some (.int .i64 0) := (blk_cell BK112.out 1).trans rfl; have hcz18_2 : w17.cell? ⟨gb112, 2, none⟩ = some (.int .u64 0) := (blk_cell BK112.out 2).trans rfl; have hcz18_3 : w17.cell? ⟨gb112, 3, none⟩ = some (.int .i64 0) := (blk_cell BK112.out 3).trans rfl; have hfz18_0 := blk_frozen BK112.out 0; have hfz18_1 := blk_frozen BK112.out 1; have hfz18_2 := blk_frozen BK112.out 2; have hfz18_3 := blk_frozen BK112.out 3) | (go_at_call 147; (with_reducible refine (bits_TrailingZeros64.calls t110 t113 _ A15.out).mono ?_); rintro e w' ⟨rfl, ⟨nd, rfl⟩⟩; (try first | exact ⟨rfl, _, World.drewN_drewN _ _ _⟩ | exact ⟨rfl, _, Eq.trans (World.drewN_drewN _ _ _) (congrArg (World.drewN _) (Nat.add_assoc _ _ _))⟩))))
        go_ret
        exact ⟨by exact phTextsx1_7, by exact phTextsx1_9⟩

/-! ### nat_FromUint: function 169 -/
def nat_FromUint.f (a0 : Int) : Option (List Int) := if a0 = 0 then (some ([] : List Int)) else (some (([a0] : List Int)))
set_option maxHeartbeats 8000000 in
set_option maxRecDepth 100000 in
theorem nat_FromUint.calls (a0 : Int) (r : List Int) (w : World) (h : nat_FromUint.f a0 = some r) (HG : Aside0 (GW w) := by exact phTextsx1_2) :
    Calls Tryz.prog 169 #[.int .u64 a0] w fun e w' => ∃ v0_ : Value, e = .returned (v0_) ∧ Kd.R (Kd.int .u64) 22 w' w.heap.size (fun _ => True) v0_ r ∧ Below w.heap.size w w' := by
  have HB := Aside0.mk (Below.refl w.heap.size w)
  have H : (if a0 = 0 then (some ([] : List Int)) else (some (([a0] : List Int)))) = some r := h
  clear h
  by_cases c2 : a0 = 0
  · rw [if_pos c2] at H
    have c2b0 : (a0 == 0) = true := beq_iff_eq.mpr c2
    have c2b1 : (a0 != 0) = false := bne_eq_false_iff_eq.mpr c2
    clear c2
    obtain rfl := Option.some.inj H
    go_enter Tryz.func169, Tryz.ntmps169
    go_wp2
    go_ret
    exact ⟨_, by exact phTextsx1_7, by first | exact Kd.R_nil _ _ _ _ _ | exact Kd.N_nil _ _ _ _ _ | exact Kd.V_nil _ _ _ _ _ | exact Kd.Q_nil _ _ _ _ _ | exact Kd.S_nil _ _ _ _ _, by exact phTextsx1_1⟩
  · rw [if_neg c2] at H
    have c2b0 : (a0 == 0) = false := beq_eq_false_iff_ne.mpr c2
    have c2b1 : (a0 != 0) = true := bne_iff_ne.mpr c2
    obtain ⟨y114, hy114⟩ : ∃ y_ : List Int, y_ = (([a0] : List Int)) := ⟨_, rfl⟩
    replace H : (some y114) = some r := by first | (rw [hy114]; with_reducible exact H) | (have H2_ := (Option.bind_some _ _).symm.trans H; rw [hy114]; with_reducible exact H2_) | (have H2_ := (Option.bind_some _ _).symm.trans H; with_reducible exact H2_) | with_reducible exact H | (rw [hy114]; exact H) | exact H
    have Ny114 := Aside0.mk hy114
    clear hy114
    obtain rfl := Option.some.inj H
    go_enter Tryz.func169, Tryz.ntmps169
    go_wp2_with (first | ((with_reducible refine gate_dst (N := 6) rfl ?_); refine Kd.R_lit (Kd.int .u64) _ 22 ?hg (N := 6) ?hd (xs := ([a0] : List Int)) (inner := [.int .u64 a0]) (ok := fun _ => True) (okp := fun _ => True) ?hr ?hp (fun _ hk => hk) trivial (Below.refl _ _) (Nat.le_refl _) (by simp) ?_; (case hd => rfl); (case hg => rfl); (case hr => first | (go_simp; done) | (go_simp; rfl)); (case hp => exact (Reps.one (show Kd.M (Kd.int .u64) _ _ _ a0 [.int .u64 a0] from rfl) (Reps.none _ _))); intro v115 w3 ho4 hb hg_ hnew_; clear hg_ hnew_; (first | rw [← Ny114.out] at ho4 | (simp only [Int.reduceToNat] at ho4; rw [← Ny114.out] at ho4)); have n0_ := Aside0.mk (Kd.R_lower ho4 (below_size (by exact phTextsx1_1))); have n1_ := Aside0.mk (below_step (by exact phTextsx1_1) hb); clear HB; have HO116 := n0_; have HB := n1_; clear n0_ n1_; clear hb ho4))
    go_ret
    exact ⟨_, by exact phTextsx1_7, by (with_reducible repeat (first | apply Kd.R_alloc | apply Kd.R_drewN | apply Kd.R_drew)); exact HO116.out, by exact phTextsx1_1⟩

/-! ### nat_size: function 172 -/
def nat_size.l0 : Nat → List Int → Int → Option (Int)
  | 0, _, _ => none
  | k + 1, x0, x3 => if x3 > 0 then (if 0 ≤ (wrap64 (x3 - 1)) then (if (wrap64 (x3 - 1)) < (x0.length : Int) then (if (rd x0 (wrap64 (x3 - 1))) = 0 then (nat_size.l0 k x0 (wrap64 (x3 - 1))) else (some x3)) else (none)) else (none)) else (some x3)
def nat_size.f (k : Nat) (l0 : List Int) : Option (Int) := nat_size.l0 k l0 (l0.length : Int)
theorem nat_size.mono_l : ∀ k, (∀ y0 y1, LeO (nat_size.l0 k y0 y1) (nat_size.l0 (k + 1) y0 y1))
  | 0 => fun _ _ r h => by simp [nat_size.l0] at h
  | k + 1 => by
    have ih0 := nat_size.mono_l k
    · intro y0 y1
      unfold nat_size.l0
      repeat' first
      | (with_reducible exact ih0 _ _)
      | (with_reducible exact LeO.refl _)
      | (with_reducible exact LeO.none _)
      | (with_reducible refine LeO.ite ?_ ?_)
      | (with_reducible refine LeO.bind ?_ (fun _ => ?_))
      | exact ih0 _ _
      | exact LeO.none _
      | refine LeO.ite ?_ ?_
      | refine LeO.bind ?_ (fun _ => ?_)
theorem nat_size.mono : ∀ a0 k, LeO (nat_size.f k a0) (nat_size.f (k + 1) a0) := by
  intro a0 k
  have ih0 := nat_size.mono_l k
  unfold nat_size.f
  repeat' first
      | (with_reducible exact ih0 _ _)
      | (with_reducible exact LeO.refl _)
      | (with_reducible exact LeO.none _)
      | (with_reducible refine LeO.ite ?_ ?_)
      | (with_reducible refine LeO.bind ?_ (fun _ => ?_))
      | exact ih0 _ _
      | exact LeO.none _
      | refine LeO.ite ?_ ?_
      | refine LeO.bind ?_ (fun _ => ?_)
set_option maxHeartbeats 8000000 in
set_option maxRecDepth 100000 in
theorem nat_size.calls (k : Nat) (A0 : Option Addr) (c0 : Nat) (l0 : List Int) (r : Int) (w : World) (hr0 : Kd.C (Kd.int .u64) w A0 l0.length l0) (hc0 : l0.length ≤ c0) (h : nat_size.f k l0 = some r) (HG : Aside0 (GW w) := by exact phTextsx1_2) :
    Calls Tryz.prog 172 #[.slice A0 l0.length c0] w fun e w' => e = .returned (.int .i64 r) ∧ Drawn0 w w' := by
  have HR0 := Aside0.mk hr0
  have HC0 := Aside0.mk hc0
  clear hr0 hc0
  have H : (nat_size.l0 k l0 (l0.length : Int)) = some r := h
  clear h
  have H' := Aside0.mk H
  clear H
  go_enter Tryz.func172, Tryz.ntmps172
  go_wp2
  go_loopg [3] k (fun kq v3 w' => ∃ (x3_1 : Int), v3 = .int .i64 x3_1 ∧ Aside0 (nat_size.l0 kq l0 x3_1 = some r) ∧ Aside0 (kq ≤ k) ∧ Drawn0 w w')
  case atStart => exact ⟨((l0.length : Int)), (by exact phTextsx1_5), H', ⟨Nat.le_refl _⟩, by exact phTextsx1_4⟩
  case round =>
    clear H'
    try clear c1
    obtain ⟨x3_1, rfl, HA, HK1, ⟨m1, rfl⟩⟩ := hrel
    cases gk with
    | zero => exact absurd HA.out (by simp [nat_size.l0])
    | succ k1 =>
      have H := HA.out
      clear HA
      simp only [nat_size.l0] at H
      by_cases c2 : x3_1 > 0
      · rw [if_pos c2] at H
        have c2b0 : decide (0 < x3_1) = true := decide_eq_true c2
        clear c2
        obtain ⟨ji3, hji3⟩ : ∃ j_ : Int, (wrap64 (x3_1 - 1)) = j_ := ⟨_, rfl⟩
        replace H : (if 0 ≤ (ji3) then (if (ji3) < (l0.length : Int) then (if (rd l0 (ji3)) = 0 then (nat_size.l0 k1 l0 ji3) else (some x3_1)) else (none)) else (none)) = some r := by first | (rw [hji3] at H; exact H) | (simp only [hji3] at H ⊢; exact H)
        have hji3w : (IntKind.i64.wrap (x3_1 - 1)) = ji3 := (i64_w _).trans hji3
        by_cases c4 : 0 ≤ (ji3)
        · rw [if_pos c4] at H
          have c4b0 : decide (0 ≤ (ji3)) = true := decide_eq_true c4
          clear c4
          by_cases c5 : (ji3) < (l0.length : Int)
          · rw [if_pos c5] at H
            have c5b0 : decide ((ji3) < (l0.length : Int)) = true := decide_eq_true c5
            clear c5
            by_cases c6 : (rd l0 (ji3)) = 0
            · rw [if_pos c6] at H
              have c6b0 : ((rd l0 (ji3)) == 0) = true := beq_iff_eq.mpr c6
              have c6b1 : ((rd l0 (ji3)) != 0) = false := bne_eq_false_iff_eq.mpr c6
              clear c6
              have H' := Aside0.mk H
              clear H
              have p117 : 0 ≤ ((ji3) : Int) := of_decide_eq_true (by first | (with_reducible assumption) | assumption)
              have q117 : (ji3) < (l0.length : Int) := of_decide_eq_true (by first | (with_reducible assumption) | assumption)
              obtain ⟨ad117, e117, hx117_0⟩ := Kd.at_int HR0.out (ji3) p117 q117
              cases e117
              replace p117 := eq_true p117
              replace q117 := eq_true q117
              go_wp2
              (try simp only [← hji3])
              go_roundg k1
              case measure => have := HK1.out; omega
              case rel => exact ⟨(ji3), (by first | rfl | (simp; done) | (simp only [← hji3] <;> (first | rfl | simp)) | (simp [*]; done)), (by first | exact H' | ((try rw [hji3]); exact H')), ⟨by have := HK1.out; omega⟩, by exact phTextsx1_4⟩
            · rw [if_neg c6] at H
              have c6b0 : ((rd l0 (ji3)) == 0) = false := beq_eq_false_iff_ne.mpr c6
              have c6b1 : ((rd l0 (ji3)) != 0) = true := bne_iff_ne.mpr c6
              obtain rfl := Option.some.inj H
              have p117 : 0 ≤ ((ji3) : Int) := of_decide_eq_true (by first | (with_reducible assumption) | assumption)
              have q117 : (ji3) < (l0.length : Int) := of_decide_eq_true (by first | (with_reducible assumption) | assumption)
              obtain ⟨ad117, e117, hx117_0⟩ := Kd.at_int HR0.out (ji3) p117 q117
              cases e117
              replace p117 := eq_true p117
              replace q117 := eq_true q117
              go_wp2
              go_ret
              exact ⟨by first | rfl | (simp; done) | (simp only [← hji3] <;> (first | rfl | simp)) | (simp [*]; done), by exact phTextsx1_4⟩
          · rw [if_neg c5] at H
            exact absurd H (by simp)
        · rw [if_neg c4] at H
          exact absurd H (by simp)
      · rw [if_neg c2] at H
        have c2b0 : decide (0 < x3_1) = false := decide_eq_false c2
        clear c2
        obtain rfl := Option.some.inj H
        go_wp2
        go_ret
        exact ⟨by exact phTextsx1_5, by exact phTextsx1_4⟩

/-! ### nat_big: function 199 -/
def nat_big.f (k : Nat) (l0 : List Int) : Option (Bool) := (nat_size.f k l0).bind fun t118 => (some (decide (t118 > 4096)))
theorem nat_big.mono : ∀ a0 k, LeO (nat_big.f k a0) (nat_big.f (k + 1) a0) := by
  intro a0 k
  unfold nat_big.f
  repeat' first
      | (with_reducible exact nat_size.mono _ _)
      | (with_reducible exact LeO.refl _)
      | (with_reducible exact LeO.none _)
      | (with_reducible refine LeO.ite ?_ ?_)
      | (with_reducible refine LeO.bind ?_ (fun _ => ?_))
      | exact nat_size.mono _ _
      | exact LeO.none _
      | refine LeO.ite ?_ ?_
      | refine LeO.bind ?_ (fun _ => ?_)
set_option maxHeartbeats 8000000 in
set_option maxRecDepth 100000 in
theorem nat_big.calls (k : Nat) (A0 : Option Addr) (c0 : Nat) (l0 : List Int) (r : Bool) (w : World) (hr0 : Kd.C (Kd.int .u64) w A0 l0.length l0) (hc0 : l0.length ≤ c0) (h : nat_big.f k l0 = some r) (HG : Aside0 (GW w) := by exact phTextsx1_2) :
    Calls Tryz.prog 199 #[.slice A0 l0.length c0] w fun e w' => e = .returned (.bool r) ∧ Drawn0 w w' := by
  have HR0 := Aside0.mk hr0
  have HC0 := Aside0.mk hc0
  clear hr0 hc0
  have H : ((nat_size.f k l0).bind fun t118 => (some (decide (t118 > 4096)))) = some r := h
  clear h
  replace H := Option.bind_eq_some_iff.mp H
  obtain ⟨t118, A20, H⟩ := H
  try dsimp only at H
  have A2 := Aside0.mk A20
  clear A20
  obtain rfl := Option.some.inj H
  go_enter Tryz.func199, Tryz.ntmps199
  go_wp2_with (first | ((with_reducible refine gate_callee (f := 172) rfl ?_); refine goesL_ (some 4) rfl rfl Tryz.func172 (by kernel_rfl) rfl #[.slice A0 l0.length c0] rfl (by exact phTextsx1_6) ?_; (with_reducible refine (nat_size.calls k _ _ l0 t118 _ ?side1 ?side2 A2.out).mono ?_); (case side1 => repeat (first | exact HR0.out | (with_reducible refine Kd.C_alloc ?_ _) | (with_reducible refine Kd.C_drewN ?_ _) | (with_reducible refine Kd.C_drew ?_))); (case side2 => exact HC0.out); rintro e w' ⟨rfl, ⟨nd, rfl⟩⟩; refine ⟨_, rfl, ?_⟩))
  go_ret
  exact ⟨by exact phTextsx1_5, by exact phTextsx1_4⟩

/-! ### bits_Mul64: function 200 -/
def bits_Mul64.f (a0 : Int) (a1 : Int) : Option (Int × Int) := some (IntKind.u64.wrap ((IntKind.u64.wrap ((IntKind.u64.wrap ((a0 / 4294967296) * (a1 / 4294967296))) + ((IntKind.u64.wrap ((IntKind.u64.wrap ((a0 / 4294967296) * (Go.bits .and .u64 a1 4294967295))) + ((IntKind.u64.wrap ((Go.bits .and .u64 a0 4294967295) * (Go.bits .and .u64 a1 4294967295))) / 4294967296))) / 4294967296))) + ((IntKind.u64.wrap ((Go.bits .and .u64 (IntKind.u64.wrap ((IntKind.u64.wrap ((a0 / 4294967296) * (Go.bits .and .u64 a1 4294967295))) + ((IntKind.u64.wrap ((Go.bits .and .u64 a0 4294967295) * (Go.bits .and .u64 a1 4294967295))) / 4294967296))) 4294967295) + (IntKind.u64.wrap ((Go.bits .and .u64 a0 4294967295) * (a1 / 4294967296))))) / 4294967296)), IntKind.u64.wrap (a0 * a1))
set_option maxHeartbeats 8000000 in
set_option maxRecDepth 100000 in
theorem bits_Mul64.calls (a0 : Int) (a1 : Int) (r1 : Int) (r2 : Int) (w : World) (h : bits_Mul64.f a0 a1 = some (r1, r2)) (HG : Aside0 (GW w) := by exact phTextsx1_2) :
    Calls Tryz.prog 200 #[.int .u64 a0, .int .u64 a1] w fun e w' => e = .returned (.tuple #[.int .u64 r1, .int .u64 r2]) ∧ Drawn0 w w' := by
  have H : (some (IntKind.u64.wrap ((IntKind.u64.wrap ((IntKind.u64.wrap ((a0 / 4294967296) * (a1 / 4294967296))) + ((IntKind.u64.wrap ((IntKind.u64.wrap ((a0 / 4294967296) * (Go.bits .and .u64 a1 4294967295))) + ((IntKind.u64.wrap ((Go.bits .and .u64 a0 4294967295) * (Go.bits .and .u64 a1 4294967295))) / 4294967296))) / 4294967296))) + ((IntKind.u64.wrap ((Go.bits .and .u64 (IntKind.u64.wrap ((IntKind.u64.wrap ((a0 / 4294967296) * (Go.bits .and .u64 a1 4294967295))) + ((IntKind.u64.wrap ((Go.bits .and .u64 a0 4294967295) * (Go.bits .and .u64 a1 4294967295))) / 4294967296))) 4294967295) + (IntKind.u64.wrap ((Go.bits .and .u64 a0 4294967295) * (a1 / 4294967296))))) / 4294967296)), IntKind.u64.wrap (a0 * a1))) = some (r1, r2) := h
  clear h
  simp only [Option.some.injEq, Prod.mk.injEq] at H
  obtain ⟨rfl, rfl⟩ := H
  go_enter Tryz.func200, Tryz.ntmps200
  go_wp2
  go_ret2
  exact ⟨by exact phTextsx1_5, by exact phTextsx1_4⟩

/-! ### nat_cut: function 201 -/
def nat_cut.f (k : Nat) (l0 : List Int) : Option (List Int × Int) := (nat_size.f k l0).bind fun n => if n > 4096 then some ([], 2) else (if 0 ≤ n then (if n ≤ (l0.length : Int) then some (l0.take n.toNat, 0) else none) else none)
theorem nat_cut.mono : ∀ a0 k, LeO (nat_cut.f k a0) (nat_cut.f (k + 1) a0) := by
  intro a0 k
  unfold nat_cut.f
  exact LeO.bind (nat_size.mono _ _) (fun _ => LeO.refl _)
set_option maxHeartbeats 2000000 in
set_option maxRecDepth 100000 in
theorem nat_cut.calls (k : Nat) (P0_ : Nat → Prop) (A0 : Option Addr) (c0 : Nat) (l0 : List Int) (r1 : List Int) (r2 : Int) (w : World) (hs0 : Kd.V (Kd.int .u64) 22 w w.heap.size (fun k_ => P0_ k_) (.slice A0 l0.length c0) l0) (h : nat_cut.f k l0 = some (r1, r2)) (HG : Aside0 (GW w) := by exact phTextsx1_2) :
    Calls Tryz.prog 201 #[.slice A0 l0.length c0] w fun e w' => ∃ v0_ : Value, e = .returned (.tuple #[v0_, .int .i64 r2]) ∧ Kd.V (Kd.int .u64) 22 w' w.heap.size (fun k_ => (P0_ k_ ∨ w.heap.size ≤ k_)) v0_ r1 ∧ Below w.heap.size w w' := by
  obtain ⟨n, hn, h⟩ := Option.bind_eq_some_iff.mp h
  have hr := Kd.V_reads' hs0
  have hF := Kd.V_F hs0
  have hc0 := hr.2.1
  by_cases c1 : n > 4096
  · rw [if_pos c1] at h
    simp only [Option.some.injEq, Prod.mk.injEq] at h
    obtain ⟨rfl, rfl⟩ := h
    have c1b : decide (4096 < n) = true := decide_eq_true c1
    go_enter Tryz.func201, Tryz.ntmps201
    go_wp2_with (go_at_call 172; refine (nat_size.calls k A0 c0 l0 n _ hr.2.2 hr.2.1 hn HG).mono ?_; rintro e w' ⟨rfl, ⟨nd, rfl⟩⟩)
    go_ret2
    exact ⟨_, rfl, Kd.V_nil _ _ _ _ _, by repeat (first | exact Below.refl _ _ | apply pw_below_drewN | apply below_drew)⟩
  · rw [if_neg c1] at h
    split at h
    · rename_i c2
      split at h
      · rename_i c3
        simp only [Option.some.injEq, Prod.mk.injEq] at h
        obtain ⟨rfl, rfl⟩ := h
        obtain ⟨m, rfl⟩ : ∃ m : Nat, n = (m : Int) := ⟨n.toNat, by omega⟩
        have hm : m ≤ l0.length := by omega
        have c1b : decide (4096 < (m : Int)) = false := decide_eq_false c1
        go_enter Tryz.func201, Tryz.ntmps201
        go_wp2_with (go_at_call 172; refine (nat_size.calls k A0 c0 l0 m _ hr.2.2 hr.2.1 hn HG).mono ?_; rintro e w' ⟨rfl, ⟨nd, rfl⟩⟩)
        go_ret2
        rw [Int.toNat_natCast]
        have hl : (l0.take m).length = m := List.length_take_of_le hm
        refine ⟨_, rfl, ⟨A0, m, by rw [hl]; rfl, by omega, ?_⟩, by repeat (first | exact Below.refl _ _ | apply pw_below_drewN | apply below_drew)⟩
        exact Kd.F_mono (Kd.F_drewN (Kd.F_take hF hm) nd) (fun k hk => .inl hk)
      · cases h
    · cases h

end Go.Proofs.YtoanmnhkhookfaaGreatDoor.PXRelateTexts
