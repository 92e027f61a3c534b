/- The machine's side of a law, printed by a program of this session out of the translation; conditions: none. -/
import Derived.Test.YtgbjojokjekmhaaGreatDoorPXCx0
import Derived.Test.YtgbjojokjekmhaaGreatDoorPXCx3
import Derived.Test.YtgbjojokjekmhaaGreatDoorPXCx12
namespace Go.Proofs.YtgbjojokjekmhaaGreatDoor.PXC
open Go.Proofs.YtgbjojokjekmhaaGreatDoor
open Go.RowKit Go.Proofs.YtgbjojokjekmhaaGreatDoorW.PrintWords Go.Proofs.YtgbjojokjekmhaaGreatDoorW.PrintLast Go.Proofs.YtgbjojokjekmhaaGreatDoorW.PrintMore
attribute [local go_sem] max2_int min2_int max_two min_two max_three min_three max_four min_four   -- for this text's walks alone
set_option linter.unusedVariables false
set_option linter.unusedSimpArgs false

theorem phCx13_1 {P : Prop} (h : P := by repeat (first | (with_reducible first | exact HB.out | apply below_alloc | apply pw_below_drewN | apply below_drew1) | exact HB.out)) : P := h
theorem phCx13_2 {P : Prop} (h : P := by (try simp only [List.map_toArray, List.map_cons, List.map_nil]); first | done | rfl | (simp only [List.length_drop, List.length_take]; rfl)) : P := h
theorem phCx13_3 {P : Prop} (h : P := by first | rfl | (simp [errW_none, errW_some] <;> rfl) | (simp only [append_nothing]; done) | (simp only [append_nothing]; rfl) | (simp [*, errW_none, errW_some] <;> rfl)) : P := h
theorem phCx13_4 {P : Prop} (h : P := by repeat (first | (with_reducible first | exact HB.out | apply below_alloc | apply pw_below_drewN | apply below_drew1 | refine below_set ?_ GE326.out) | exact HB.out)) : P := h
theorem phCx13_5 {P : Prop} (h : P := by first | (with_reducible exact HG) | exact ⟨GW.below HG.out (by repeat (first | (with_reducible first | exact HB.out | apply below_alloc | apply pw_below_drewN | apply below_drew1) | (with_reducible refine below_set ?_ (Aside0.out (by assumption))) | exact HB.out | exact Below.refl _ _))⟩ | exact ⟨GW.drewN HG.out _⟩ | exact ⟨GW.drew HG.out⟩ | exact ⟨GW.drewN (GW.drewN HG.out _) _⟩ | exact ⟨GW.drewN (GW.drew HG.out) _⟩) : P := h
theorem phCx13_6 {P : Prop} (h : P := by repeat (first | (with_reducible first | exact HB.out | apply below_alloc | apply pw_below_drewN | apply below_drew1) | (with_reducible refine below_set ?_ (Aside0.out (by assumption))) | exact HB.out | exact Below.refl _ _)) : P := h
theorem phCx13_7 {P : Prop} (h : P := by (with_reducible repeat (first | refine blk_drewN ?_ _ | refine blk_drew ?_ | refine blk_alloc ?_ _)); exact BK326.out) : P := h
/-! ### abacuslaw15_awake: function 13 -/
def abacuslaw15_awake.f (k : Nat)  : Option (Bool) := (point_Render.f k 102 18 8 2 13832806255468478464).bind fun bt319 => ((point_Render.f k 102 18 8 2 4609434218613702656).bind fun bt321 => ((point_Special.f k 69 0 6 (-1) 18442240474082181120).bind fun bt323 => (if bt319.1.toList = ([45, 48, 48, 48, 49, 46, 53, 48] : List UInt8) then (if bt321.1.toList = ([43, 48, 48, 48, 49, 46, 53, 48] : List UInt8) then (if bt323.1.toList = ([32, 32, 45, 73, 78, 70] : List UInt8) then (if bt323.2.1 = true then (if bt319.2 = 0 then (if bt321.2 = 0 then (some (bt323.2.2 == 0)) else (some false)) else (some false)) else (some false)) else (some false)) else (some false)) else (some false))))
theorem abacuslaw15_awake.mono : ∀ k, LeO (abacuslaw15_awake.f k ) (abacuslaw15_awake.f (k + 1) ) := by
  intro  k
  unfold abacuslaw15_awake.f
  repeat' first
      | (with_reducible exact point_Render.mono _ _ _ _ _ _)
      | (with_reducible exact point_Special.mono _ _ _ _ _ _)
      | (with_reducible exact LeO.refl _)
      | (with_reducible exact LeO.none _)
      | (with_reducible refine LeO.ite ?_ ?_)
      | (with_reducible refine LeO.bind ?_ (fun _ => ?_))
      | exact point_Render.mono _ _ _ _ _ _
      | exact point_Special.mono _ _ _ _ _ _
      | exact LeO.none _
      | refine LeO.ite ?_ ?_
      | refine LeO.bind ?_ (fun _ => ?_)
set_option maxHeartbeats 8000000 in
set_option maxRecDepth 100000 in
theorem abacuslaw15_awake.calls (k : Nat)  (r : Bool) (w : World) (h : abacuslaw15_awake.f k  = some r) (HG : Aside0 (GW w) := by exact phCx13_5) :
    Calls Tryz.prog 13 #[] w fun e w' => e = .returned (.bool r) ∧ Below w.heap.size w w' := by
  have hu23 := Tryz.underlying23
  have HB := Aside0.mk (Below.refl w.heap.size w)
  have H : ((point_Render.f k 102 18 8 2 13832806255468478464).bind fun bt319 => ((point_Render.f k 102 18 8 2 4609434218613702656).bind fun bt321 => ((point_Special.f k 69 0 6 (-1) 18442240474082181120).bind fun bt323 => (if bt319.1.toList = ([45, 48, 48, 48, 49, 46, 53, 48] : List UInt8) then (if bt321.1.toList = ([43, 48, 48, 48, 49, 46, 53, 48] : List UInt8) then (if bt323.1.toList = ([32, 32, 45, 73, 78, 70] : List UInt8) then (if bt323.2.1 = true then (if bt319.2 = 0 then (if bt321.2 = 0 then (some (bt323.2.2 == 0)) else (some false)) else (some false)) else (some false)) else (some false)) else (some false)) else (some false))))) = some r := h
  clear h
  replace H := Option.bind_eq_some_iff.mp H
  obtain ⟨⟨t319, t320⟩, A10, H⟩ := H
  try dsimp only at H
  have A1 := Aside0.mk A10
  clear A10
  replace H := Option.bind_eq_some_iff.mp H
  obtain ⟨⟨t321, t322⟩, A20, H⟩ := H
  try dsimp only at H
  have A2 := Aside0.mk A20
  clear A20
  replace H := Option.bind_eq_some_iff.mp H
  obtain ⟨⟨t323, t324, t325⟩, A30, H⟩ := H
  try dsimp only at H
  have A3 := Aside0.mk A30
  clear A30
  by_cases c4 : t319.toList = ([45, 48, 48, 48, 49, 46, 53, 48] : List UInt8)
  · rw [if_pos c4] at H
    have c4b0 : (t319.toList == ([45, 48, 48, 48, 49, 46, 53, 48] : List UInt8)) = true := beq_iff_eq.mpr c4
    have c4b1 : (t319.toList != ([45, 48, 48, 48, 49, 46, 53, 48] : List UInt8)) = false := bne_eq_false_iff_eq.mpr c4
    clear c4
    by_cases c5 : t321.toList = ([43, 48, 48, 48, 49, 46, 53, 48] : List UInt8)
    · rw [if_pos c5] at H
      have c5b0 : (t321.toList == ([43, 48, 48, 48, 49, 46, 53, 48] : List UInt8)) = true := beq_iff_eq.mpr c5
      have c5b1 : (t321.toList != ([43, 48, 48, 48, 49, 46, 53, 48] : List UInt8)) = false := bne_eq_false_iff_eq.mpr c5
      clear c5
      by_cases c6 : t323.toList = ([32, 32, 45, 73, 78, 70] : List UInt8)
      · rw [if_pos c6] at H
        have c6b0 : (t323.toList == ([32, 32, 45, 73, 78, 70] : List UInt8)) = true := beq_iff_eq.mpr c6
        have c6b1 : (t323.toList != ([32, 32, 45, 73, 78, 70] : List UInt8)) = false := bne_eq_false_iff_eq.mpr c6
        clear c6
        by_cases c7 : t324 = true
        · subst c7
          have H1 : (if t320 = 0 then (if t322 = 0 then (some (t325 == 0)) else (some false)) else (some false)) = some r := by rw [if_pos rfl] at H; exact H
          clear H
          have H := H1
          clear H1
          by_cases c8 : t320 = 0
          · rw [if_pos c8] at H
            have c8b0 : (t320 == 0) = true := beq_iff_eq.mpr c8
            have c8b1 : (t320 != 0) = false := bne_eq_false_iff_eq.mpr c8
            clear c8
            by_cases c9 : t322 = 0
            · rw [if_pos c9] at H
              have c9b0 : (t322 == 0) = true := beq_iff_eq.mpr c9
              have c9b1 : (t322 != 0) = false := bne_eq_false_iff_eq.mpr c9
              clear c9
              obtain rfl := Option.some.inj H
              go_enter Tryz.func13, Tryz.ntmps13
              go_wp2_with (first | ((with_reducible refine gate_callee (f := 14) rfl ?_); refine goesL_ (some 10) rfl rfl Tryz.func14 (by kernel_rfl) rfl #[.agg #[.int .u8 102, .int .i64 18, .int .i64 8, .int .i64 2], .int .u64 13832806255468478464] rfl (by exact phCx13_2) ?_; (with_reducible refine (point_Render.calls k 102 18 8 2 13832806255468478464 t319 t320 _ A1.out).mono ?_); rintro e w10 ⟨rfl, hb⟩; refine ⟨_, rfl, ?_⟩; have n0_ := Aside0.mk (below_step (by exact phCx13_1) hb); clear HB; have HB := n0_; clear n0_; (try clear hb); (try clear hb2); (try clear hk); (try clear hi)) | ((with_reducible refine gate_callee (f := 14) rfl ?_); refine goesL_ (some 15) rfl rfl Tryz.func14 (by kernel_rfl) rfl #[.agg #[.int .u8 102, .int .i64 18, .int .i64 8, .int .i64 2], .int .u64 4609434218613702656] rfl (by exact phCx13_2) ?_; (with_reducible refine (point_Render.calls k 102 18 8 2 4609434218613702656 t321 t322 _ A2.out).mono ?_); rintro e w11 ⟨rfl, hb⟩; refine ⟨_, rfl, ?_⟩; have n0_ := Aside0.mk (below_step (by exact phCx13_1) hb); clear HB; have HB := n0_; clear n0_; (try clear hb); (try clear hb2); (try clear hk); (try clear hi)) | ((with_reducible refine gate_callee (f := 17) rfl ?_); refine goesL_ (some 20) rfl rfl Tryz.func17 (by kernel_rfl) rfl #[.agg #[.int .u8 69, .int .i64 0, .int .i64 6, .int .i64 (-1)], .int .u64 18442240474082181120] rfl (by exact phCx13_2) ?_; (with_reducible refine (point_Special.calls k 69 0 6 (-1) 18442240474082181120 t323 true t325 _ A3.out).mono ?_); rintro e w12 ⟨rfl, hb⟩; refine ⟨_, rfl, ?_⟩; have n0_ := Aside0.mk (below_step (by exact phCx13_1) hb); clear HB; have HB := n0_; clear n0_; (try clear hb); (try clear hb2); (try clear hk); (try clear hi)))
              go_ret
              exact ⟨by exact phCx13_3, by exact phCx13_1⟩
            · rw [if_neg c9] at H
              have c9b0 : (t322 == 0) = false := beq_eq_false_iff_ne.mpr c9
              have c9b1 : (t322 != 0) = true := bne_iff_ne.mpr c9
              obtain rfl := Option.some.inj H
              go_enter Tryz.func13, Tryz.ntmps13
              go_wp2_with (first | ((with_reducible refine gate_callee (f := 14) rfl ?_); refine goesL_ (some 10) rfl rfl Tryz.func14 (by kernel_rfl) rfl #[.agg #[.int .u8 102, .int .i64 18, .int .i64 8, .int .i64 2], .int .u64 13832806255468478464] rfl (by exact phCx13_2) ?_; (with_reducible refine (point_Render.calls k 102 18 8 2 13832806255468478464 t319 t320 _ A1.out).mono ?_); rintro e w13 ⟨rfl, hb⟩; refine ⟨_, rfl, ?_⟩; have n0_ := Aside0.mk (below_step (by exact phCx13_1) hb); clear HB; have HB := n0_; clear n0_; (try clear hb); (try clear hb2); (try clear hk); (try clear hi)) | ((with_reducible refine gate_callee (f := 14) rfl ?_); refine goesL_ (some 15) rfl rfl Tryz.func14 (by kernel_rfl) rfl #[.agg #[.int .u8 102, .int .i64 18, .int .i64 8, .int .i64 2], .int .u64 4609434218613702656] rfl (by exact phCx13_2) ?_; (with_reducible refine (point_Render.calls k 102 18 8 2 4609434218613702656 t321 t322 _ A2.out).mono ?_); rintro e w14 ⟨rfl, hb⟩; refine ⟨_, rfl, ?_⟩; have n0_ := Aside0.mk (below_step (by exact phCx13_1) hb); clear HB; have HB := n0_; clear n0_; (try clear hb); (try clear hb2); (try clear hk); (try clear hi)) | ((with_reducible refine gate_callee (f := 17) rfl ?_); refine goesL_ (some 20) rfl rfl Tryz.func17 (by kernel_rfl) rfl #[.agg #[.int .u8 69, .int .i64 0, .int .i64 6, .int .i64 (-1)], .int .u64 18442240474082181120] rfl (by exact phCx13_2) ?_; (with_reducible refine (point_Special.calls k 69 0 6 (-1) 18442240474082181120 t323 true t325 _ A3.out).mono ?_); rintro e w15 ⟨rfl, hb⟩; refine ⟨_, rfl, ?_⟩; have n0_ := Aside0.mk (below_step (by exact phCx13_1) hb); clear HB; have HB := n0_; clear n0_; (try clear hb); (try clear hb2); (try clear hk); (try clear hi)))
              go_ret
              exact ⟨by exact phCx13_3, by exact phCx13_1⟩
          · rw [if_neg c8] at H
            have c8b0 : (t320 == 0) = false := beq_eq_false_iff_ne.mpr c8
            have c8b1 : (t320 != 0) = true := bne_iff_ne.mpr c8
            obtain rfl := Option.some.inj H
            go_enter Tryz.func13, Tryz.ntmps13
            go_wp2_with (first | ((with_reducible refine gate_callee (f := 14) rfl ?_); refine goesL_ (some 10) rfl rfl Tryz.func14 (by kernel_rfl) rfl #[.agg #[.int .u8 102, .int .i64 18, .int .i64 8, .int .i64 2], .int .u64 13832806255468478464] rfl (by exact phCx13_2) ?_; (with_reducible refine (point_Render.calls k 102 18 8 2 13832806255468478464 t319 t320 _ A1.out).mono ?_); rintro e w16 ⟨rfl, hb⟩; refine ⟨_, rfl, ?_⟩; have n0_ := Aside0.mk (below_step (by exact phCx13_1) hb); clear HB; have HB := n0_; clear n0_; (try clear hb); (try clear hb2); (try clear hk); (try clear hi)) | ((with_reducible refine gate_callee (f := 14) rfl ?_); refine goesL_ (some 15) rfl rfl Tryz.func14 (by kernel_rfl) rfl #[.agg #[.int .u8 102, .int .i64 18, .int .i64 8, .int .i64 2], .int .u64 4609434218613702656] rfl (by exact phCx13_2) ?_; (with_reducible refine (point_Render.calls k 102 18 8 2 4609434218613702656 t321 t322 _ A2.out).mono ?_); rintro e w17 ⟨rfl, hb⟩; refine ⟨_, rfl, ?_⟩; have n0_ := Aside0.mk (below_step (by exact phCx13_1) hb); clear HB; have HB := n0_; clear n0_; (try clear hb); (try clear hb2); (try clear hk); (try clear hi)) | ((with_reducible refine gate_callee (f := 17) rfl ?_); refine goesL_ (some 20) rfl rfl Tryz.func17 (by kernel_rfl) rfl #[.agg #[.int .u8 69, .int .i64 0, .int .i64 6, .int .i64 (-1)], .int .u64 18442240474082181120] rfl (by exact phCx13_2) ?_; (with_reducible refine (point_Special.calls k 69 0 6 (-1) 18442240474082181120 t323 true t325 _ A3.out).mono ?_); rintro e w18 ⟨rfl, hb⟩; refine ⟨_, rfl, ?_⟩; have n0_ := Aside0.mk (below_step (by exact phCx13_1) hb); clear HB; have HB := n0_; clear n0_; (try clear hb); (try clear hb2); (try clear hk); (try clear hi)))
            go_ret
            exact ⟨by exact phCx13_3, by exact phCx13_1⟩
        · replace c7 := Bool.eq_false_iff.mpr c7
          subst c7
          have H1 : (some false) = some r := by rw [if_neg (show ¬ (false = true) by decide)] at H; exact H
          clear H
          have H := H1
          clear H1
          obtain rfl := Option.some.inj H
          go_enter Tryz.func13, Tryz.ntmps13
          go_wp2_with (first | ((with_reducible refine gate_callee (f := 14) rfl ?_); refine goesL_ (some 10) rfl rfl Tryz.func14 (by kernel_rfl) rfl #[.agg #[.int .u8 102, .int .i64 18, .int .i64 8, .int .i64 2], .int .u64 13832806255468478464] rfl (by exact phCx13_2) ?_; (with_reducible refine (point_Render.calls k 102 18 8 2 13832806255468478464 t319 t320 _ A1.out).mono ?_); rintro e w19 ⟨rfl, hb⟩; refine ⟨_, rfl, ?_⟩; have n0_ := Aside0.mk (below_step (by exact phCx13_1) hb); clear HB; have HB := n0_; clear n0_; (try clear hb); (try clear hb2); (try clear hk); (try clear hi)) | ((with_reducible refine gate_callee (f := 14) rfl ?_); refine goesL_ (some 15) rfl rfl Tryz.func14 (by kernel_rfl) rfl #[.agg #[.int .u8 102, .int .i64 18, .int .i64 8, .int .i64 2], .int .u64 4609434218613702656] rfl (by exact phCx13_2) ?_; (with_reducible refine (point_Render.calls k 102 18 8 2 4609434218613702656 t321 t322 _ A2.out).mono ?_); rintro e w20 ⟨rfl, hb⟩; refine ⟨_, rfl, ?_⟩; have n0_ := Aside0.mk (below_step (by exact phCx13_1) hb); clear HB; have HB := n0_; clear n0_; (try clear hb); (try clear hb2); (try clear hk); (try clear hi)) | ((with_reducible refine gate_callee (f := 17) rfl ?_); refine goesL_ (some 20) rfl rfl Tryz.func17 (by kernel_rfl) rfl #[.agg #[.int .u8 69, .int .i64 0, .int .i64 6, .int .i64 (-1)], .int .u64 18442240474082181120] rfl (by exact phCx13_2) ?_; (with_reducible refine (point_Special.calls k 69 0 6 (-1) 18442240474082181120 t323 false t325 _ A3.out).mono ?_); rintro e w21 ⟨rfl, hb⟩; refine ⟨_, rfl, ?_⟩; have n0_ := Aside0.mk (below_step (by exact phCx13_1) hb); clear HB; have HB := n0_; clear n0_; (try clear hb); (try clear hb2); (try clear hk); (try clear hi)))
          go_ret
          exact ⟨by exact phCx13_3, by exact phCx13_1⟩
      · rw [if_neg c6] at H
        have c6b0 : (t323.toList == ([32, 32, 45, 73, 78, 70] : List UInt8)) = false := beq_eq_false_iff_ne.mpr c6
        have c6b1 : (t323.toList != ([32, 32, 45, 73, 78, 70] : List UInt8)) = true := bne_iff_ne.mpr c6
        obtain rfl := Option.some.inj H
        go_enter Tryz.func13, Tryz.ntmps13
        go_wp2_with (first | ((with_reducible refine gate_callee (f := 14) rfl ?_); refine goesL_ (some 10) rfl rfl Tryz.func14 (by kernel_rfl) rfl #[.agg #[.int .u8 102, .int .i64 18, .int .i64 8, .int .i64 2], .int .u64 13832806255468478464] rfl (by exact phCx13_2) ?_; (with_reducible refine (point_Render.calls k 102 18 8 2 13832806255468478464 t319 t320 _ A1.out).mono ?_); rintro e w22 ⟨rfl, hb⟩; refine ⟨_, rfl, ?_⟩; have n0_ := Aside0.mk (below_step (by exact phCx13_1) hb); clear HB; have HB := n0_; clear n0_; (try clear hb); (try clear hb2); (try clear hk); (try clear hi)) | ((with_reducible refine gate_callee (f := 14) rfl ?_); refine goesL_ (some 15) rfl rfl Tryz.func14 (by kernel_rfl) rfl #[.agg #[.int .u8 102, .int .i64 18, .int .i64 8, .int .i64 2], .int .u64 4609434218613702656] rfl (by exact phCx13_2) ?_; (with_reducible refine (point_Render.calls k 102 18 8 2 4609434218613702656 t321 t322 _ A2.out).mono ?_); rintro e w23 ⟨rfl, hb⟩; refine ⟨_, rfl, ?_⟩; have n0_ := Aside0.mk (below_step (by exact phCx13_1) hb); clear HB; have HB := n0_; clear n0_; (try clear hb); (try clear hb2); (try clear hk); (try clear hi)) | ((with_reducible refine gate_callee (f := 17) rfl ?_); refine goesL_ (some 20) rfl rfl Tryz.func17 (by kernel_rfl) rfl #[.agg #[.int .u8 69, .int .i64 0, .int .i64 6, .int .i64 (-1)], .int .u64 18442240474082181120] rfl (by exact phCx13_2) ?_; (with_reducible refine (point_Special.calls k 69 0 6 (-1) 18442240474082181120 t323 t324 t325 _ A3.out).mono ?_); rintro e w24 ⟨rfl, hb⟩; refine ⟨_, rfl, ?_⟩; have n0_ := Aside0.mk (below_step (by exact phCx13_1) hb); clear HB; have HB := n0_; clear n0_; (try clear hb); (try clear hb2); (try clear hk); (try clear hi)))
        go_ret
        exact ⟨by exact phCx13_3, by exact phCx13_1⟩
    · rw [if_neg c5] at H
      have c5b0 : (t321.toList == ([43, 48, 48, 48, 49, 46, 53, 48] : List UInt8)) = false := beq_eq_false_iff_ne.mpr c5
      have c5b1 : (t321.toList != ([43, 48, 48, 48, 49, 46, 53, 48] : List UInt8)) = true := bne_iff_ne.mpr c5
      obtain rfl := Option.some.inj H
      go_enter Tryz.func13, Tryz.ntmps13
      go_wp2_with (first | ((with_reducible refine gate_callee (f := 14) rfl ?_); refine goesL_ (some 10) rfl rfl Tryz.func14 (by kernel_rfl) rfl #[.agg #[.int .u8 102, .int .i64 18, .int .i64 8, .int .i64 2], .int .u64 13832806255468478464] rfl (by exact phCx13_2) ?_; (with_reducible refine (point_Render.calls k 102 18 8 2 13832806255468478464 t319 t320 _ A1.out).mono ?_); rintro e w25 ⟨rfl, hb⟩; refine ⟨_, rfl, ?_⟩; have n0_ := Aside0.mk (below_step (by exact phCx13_1) hb); clear HB; have HB := n0_; clear n0_; (try clear hb); (try clear hb2); (try clear hk); (try clear hi)) | ((with_reducible refine gate_callee (f := 14) rfl ?_); refine goesL_ (some 15) rfl rfl Tryz.func14 (by kernel_rfl) rfl #[.agg #[.int .u8 102, .int .i64 18, .int .i64 8, .int .i64 2], .int .u64 4609434218613702656] rfl (by exact phCx13_2) ?_; (with_reducible refine (point_Render.calls k 102 18 8 2 4609434218613702656 t321 t322 _ A2.out).mono ?_); rintro e w26 ⟨rfl, hb⟩; refine ⟨_, rfl, ?_⟩; have n0_ := Aside0.mk (below_step (by exact phCx13_1) hb); clear HB; have HB := n0_; clear n0_; (try clear hb); (try clear hb2); (try clear hk); (try clear hi)) | ((with_reducible refine gate_callee (f := 17) rfl ?_); refine goesL_ (some 20) rfl rfl Tryz.func17 (by kernel_rfl) rfl #[.agg #[.int .u8 69, .int .i64 0, .int .i64 6, .int .i64 (-1)], .int .u64 18442240474082181120] rfl (by exact phCx13_2) ?_; (with_reducible refine (point_Special.calls k 69 0 6 (-1) 18442240474082181120 t323 t324 t325 _ A3.out).mono ?_); rintro e w27 ⟨rfl, hb⟩; refine ⟨_, rfl, ?_⟩; have n0_ := Aside0.mk (below_step (by exact phCx13_1) hb); clear HB; have HB := n0_; clear n0_; (try clear hb); (try clear hb2); (try clear hk); (try clear hi)))
      go_ret
      exact ⟨by exact phCx13_3, by exact phCx13_1⟩
  · rw [if_neg c4] at H
    have c4b0 : (t319.toList == ([45, 48, 48, 48, 49, 46, 53, 48] : List UInt8)) = false := beq_eq_false_iff_ne.mpr c4
    have c4b1 : (t319.toList != ([45, 48, 48, 48, 49, 46, 53, 48] : List UInt8)) = true := bne_iff_ne.mpr c4
    obtain rfl := Option.some.inj H
    go_enter Tryz.func13, Tryz.ntmps13
    go_wp2_with (first | ((with_reducible refine gate_callee (f := 14) rfl ?_); refine goesL_ (some 10) rfl rfl Tryz.func14 (by kernel_rfl) rfl #[.agg #[.int .u8 102, .int .i64 18, .int .i64 8, .int .i64 2], .int .u64 13832806255468478464] rfl (by exact phCx13_2) ?_; (with_reducible refine (point_Render.calls k 102 18 8 2 13832806255468478464 t319 t320 _ A1.out).mono ?_); rintro e w28 ⟨rfl, hb⟩; refine ⟨_, rfl, ?_⟩; have n0_ := Aside0.mk (below_step (by exact phCx13_1) hb); clear HB; have HB := n0_; clear n0_; (try clear hb); (try clear hb2); (try clear hk); (try clear hi)) | ((with_reducible refine gate_callee (f := 14) rfl ?_); refine goesL_ (some 15) rfl rfl Tryz.func14 (by kernel_rfl) rfl #[.agg #[.int .u8 102, .int .i64 18, .int .i64 8, .int .i64 2], .int .u64 4609434218613702656] rfl (by exact phCx13_2) ?_; (with_reducible refine (point_Render.calls k 102 18 8 2 4609434218613702656 t321 t322 _ A2.out).mono ?_); rintro e w29 ⟨rfl, hb⟩; refine ⟨_, rfl, ?_⟩; have n0_ := Aside0.mk (below_step (by exact phCx13_1) hb); clear HB; have HB := n0_; clear n0_; (try clear hb); (try clear hb2); (try clear hk); (try clear hi)) | ((with_reducible refine gate_callee (f := 17) rfl ?_); refine goesL_ (some 20) rfl rfl Tryz.func17 (by kernel_rfl) rfl #[.agg #[.int .u8 69, .int .i64 0, .int .i64 6, .int .i64 (-1)], .int .u64 18442240474082181120] rfl (by exact phCx13_2) ?_; (with_reducible refine (point_Special.calls k 69 0 6 (-1) 18442240474082181120 t323 t324 t325 _ A3.out).mono ?_); rintro e w30 ⟨rfl, hb⟩; refine ⟨_, rfl, ?_⟩; have n0_ := Aside0.mk (below_step (by exact phCx13_1) hb); clear HB; have HB := n0_; clear n0_; (try clear hb); (try clear hb2); (try clear hk); (try clear hi)))
    go_ret
    exact ⟨by exact phCx13_3, by exact phCx13_1⟩

/-! ### abacuslaw15_wrong: function 15 -/
mutual
def abacuslaw15_wrong.j0 : Nat → Int → Int → Int → Int → Option (Int)
  | 0, _, _, _, _ => none
  | k + 1, x327000, x327001, x327002, x327003 => if x327001 < 0 then (abacuslaw15_wrong.j1 k true x327000 x327001 x327002 x327003) else (if x327001 > 31 then (abacuslaw15_wrong.j1 k true x327000 x327001 x327002 x327003) else (if x327002 < 0 then (abacuslaw15_wrong.j1 k true x327000 x327001 x327002 x327003) else (abacuslaw15_wrong.j1 k (decide (x327003 < (-1))) x327000 x327001 x327002 x327003)))
def abacuslaw15_wrong.j1 : Nat → Bool → Int → Int → Int → Int → Option (Int)
  | 0, _, _, _, _, _ => none
  | k + 1, x29, x327000, x327001, x327002, x327003 => if x29 = true then (some 1) else (if x327002 > 4096 then (some 6) else (if x327003 > 4096 then (some 6) else (some 0)))
end
def abacuslaw15_wrong.f (k : Nat) (a0_0 : Int) (a0_1 : Int) (a0_2 : Int) (a0_3 : Int) : Option (Int) := if a0_0 = 101 then (abacuslaw15_wrong.j0 k a0_0 a0_1 a0_2 a0_3) else (if a0_0 = 69 then (abacuslaw15_wrong.j0 k a0_0 a0_1 a0_2 a0_3) else (if a0_0 = 102 then (abacuslaw15_wrong.j0 k a0_0 a0_1 a0_2 a0_3) else (if a0_0 = 70 then (abacuslaw15_wrong.j0 k a0_0 a0_1 a0_2 a0_3) else (if a0_0 = 103 then (abacuslaw15_wrong.j0 k a0_0 a0_1 a0_2 a0_3) else (if a0_0 = 71 then (abacuslaw15_wrong.j0 k a0_0 a0_1 a0_2 a0_3) else (some 140))))))
theorem abacuslaw15_wrong.mono_l : ∀ k, (∀ y0 y1 y2 y3, LeO (abacuslaw15_wrong.j0 k y0 y1 y2 y3) (abacuslaw15_wrong.j0 (k + 1) y0 y1 y2 y3)) ∧ (∀ y0 y1 y2 y3 y4, LeO (abacuslaw15_wrong.j1 k y0 y1 y2 y3 y4) (abacuslaw15_wrong.j1 (k + 1) y0 y1 y2 y3 y4))
  | 0 => ⟨fun _ _ _ _ r h => by simp [abacuslaw15_wrong.j0] at h, fun _ _ _ _ _ r h => by simp [abacuslaw15_wrong.j1] at h⟩
  | k + 1 => by
    obtain ⟨ih0, ih1⟩ := abacuslaw15_wrong.mono_l k
    refine ⟨?_, ?_⟩
    · intro y0 y1 y2 y3
      unfold abacuslaw15_wrong.j0
      repeat' first
      | (with_reducible exact ih0 _ _ _ _)
      | (with_reducible exact ih1 _ _ _ _ _)
      | (with_reducible exact LeO.refl _)
      | (with_reducible exact LeO.none _)
      | (with_reducible refine LeO.ite ?_ ?_)
      | (with_reducible refine LeO.bind ?_ (fun _ => ?_))
      | exact ih0 _ _ _ _
      | exact ih1 _ _ _ _ _
      | exact LeO.none _
      | refine LeO.ite ?_ ?_
      | refine LeO.bind ?_ (fun _ => ?_)
    · intro y0 y1 y2 y3 y4
      unfold abacuslaw15_wrong.j1
      repeat' first
      | (with_reducible exact ih0 _ _ _ _)
      | (with_reducible exact ih1 _ _ _ _ _)
      | (with_reducible exact LeO.refl _)
      | (with_reducible exact LeO.none _)
      | (with_reducible refine LeO.ite ?_ ?_)
      | (with_reducible refine LeO.bind ?_ (fun _ => ?_))
      | exact ih0 _ _ _ _
      | exact ih1 _ _ _ _ _
      | exact LeO.none _
      | refine LeO.ite ?_ ?_
      | refine LeO.bind ?_ (fun _ => ?_)
theorem abacuslaw15_wrong.mono : ∀ a0 a1 a2 a3 k, LeO (abacuslaw15_wrong.f k a0 a1 a2 a3) (abacuslaw15_wrong.f (k + 1) a0 a1 a2 a3) := by
  intro a0 a1 a2 a3 k
  obtain ⟨ih0, ih1⟩ := abacuslaw15_wrong.mono_l k
  unfold abacuslaw15_wrong.f
  repeat' first
      | (with_reducible exact ih0 _ _ _ _)
      | (with_reducible exact ih1 _ _ _ _ _)
      | (with_reducible exact LeO.refl _)
      | (with_reducible exact LeO.none _)
      | (with_reducible refine LeO.ite ?_ ?_)
      | (with_reducible refine LeO.bind ?_ (fun _ => ?_))
      | exact ih0 _ _ _ _
      | exact ih1 _ _ _ _ _
      | exact LeO.none _
      | refine LeO.ite ?_ ?_
      | refine LeO.bind ?_ (fun _ => ?_)
theorem abacuslaw15_wrong.w1 {P : Prop} (h : P := by
  go_wp2
  go_meet
  case rel => exact ⟨_, H', ⟨by first | omega | exact Nat.le_refl _⟩, ⟨by exact phCx13_7⟩, ⟨by exact phCx13_4⟩⟩) : P := h
theorem abacuslaw15_wrong.w2 {P : Prop} (h : P := by
  go_wp2
  go_ret
  exact ⟨by exact phCx13_3, by exact phCx13_4⟩) : P := h
theorem abacuslaw15_wrong.w3 {P : Prop} (h : P := by
  go_wp2
  go_meet
  case rel => exact ⟨_, (true), (by first | rfl | (simp; done) | (simp [*]; done)), H', ⟨by have := HJ1.out; first | omega | exact Nat.le_refl _⟩, ⟨by exact phCx13_7⟩, ⟨by exact phCx13_4⟩⟩) : P := h
set_option maxHeartbeats 8000000 in
set_option maxRecDepth 100000 in
theorem abacuslaw15_wrong.calls (k : Nat) (a0_0 : Int) (a0_1 : Int) (a0_2 : Int) (a0_3 : Int) (r : Int) (w : World) (h : abacuslaw15_wrong.f k a0_0 a0_1 a0_2 a0_3 = some r) (HG : Aside0 (GW w) := by exact phCx13_5) :
    Calls Tryz.prog 15 #[.agg #[.int .u8 a0_0, .int .i64 a0_1, .int .i64 a0_2, .int .i64 a0_3]] w fun e w' => e = .returned (.int .i64 r) ∧ Below w.heap.size w w' := by
  have hu23 := Tryz.underlying23
  have HB := Aside0.mk (Below.refl w.heap.size w)
  have H : (if a0_0 = 101 then (abacuslaw15_wrong.j0 k a0_0 a0_1 a0_2 a0_3) else (if a0_0 = 69 then (abacuslaw15_wrong.j0 k a0_0 a0_1 a0_2 a0_3) else (if a0_0 = 102 then (abacuslaw15_wrong.j0 k a0_0 a0_1 a0_2 a0_3) else (if a0_0 = 70 then (abacuslaw15_wrong.j0 k a0_0 a0_1 a0_2 a0_3) else (if a0_0 = 103 then (abacuslaw15_wrong.j0 k a0_0 a0_1 a0_2 a0_3) else (if a0_0 = 71 then (abacuslaw15_wrong.j0 k a0_0 a0_1 a0_2 a0_3) else (some 140))))))) = some r := h
  clear h
  have HC2 := Aside0.mk H
  clear H
  go_enter Tryz.func15, Tryz.ntmps15
  go_upto_block 0 with (first | ((with_reducible refine gate_dst (N := 1) rfl ?_); refine box_event ?hg (N := 1) ?hd (cs := #[.int .u8 a0_0, .int .i64 a0_1, .int .i64 a0_2, .int .i64 a0_3]) (t := 23) ?hr ?_; (case hd => rfl); (case hg => rfl); (case hr => first | (go_simp; done) | (go_simp; rfl)); intro gb326 hg w3 hbox hb; have n0_ := Aside0.mk (below_step (by exact phCx13_1) hb); have n1_ := Aside0.mk (hbox); have n2_ := Aside0.mk ((by rw [hg]; exact (below_size (by exact phCx13_1)) : w.heap.size ≤ gb326)); have n3_ := Aside0.mk ((by rw [hg]; exact (below_size (by exact phCx13_1)) : w.heap.size ≤ gb326)); clear HB; have HB := n0_; have BK326 := n1_; have GW326 := n2_; have GE326 := n3_; clear n0_ n1_ n2_ n3_; clear hb hbox hg; have hcz4_0 : w3.cell? ⟨gb326, 0, none⟩ = some (.int .u8 a0_0) := (blk_cell BK326.out 0).trans rfl; have hcz4_1 : w3.cell? ⟨gb326, 1, none⟩ = some (.int .i64 a0_1) := (blk_cell BK326.out 1).trans rfl; have hcz4_2 : w3.cell? ⟨gb326, 2, none⟩ = some (.int .i64 a0_2) := (blk_cell BK326.out 2).trans rfl; have hcz4_3 : w3.cell? ⟨gb326, 3, none⟩ = some (.int .i64 a0_3) := (blk_cell BK326.out 3).trans rfl; have hfz4_0 := blk_frozen BK326.out 0; have hfz4_1 := blk_frozen BK326.out 1; have hfz4_2 := blk_frozen BK326.out 2; have hfz4_3 := blk_frozen BK326.out 3))
  (try simp only [Act.put, List.setIfInBounds_toArray, List.set_cons_zero, List.set_cons_succ])
  go_cut [] (fun wc => ∃ (kq : Nat), Aside0 (abacuslaw15_wrong.j0 kq a0_0 a0_1 a0_2 a0_3 = some r) ∧ Aside0 (kq ≤ k) ∧ Aside0 (wc.heap[gb326]? = some (.cells #[.int .u8 a0_0, .int .i64 a0_1, .int .i64 a0_2, .int .i64 a0_3] 23 (0, 0))) ∧ Aside0 (Below w.heap.size w wc))
  case first =>
    have H := HC2.out
    clear HC2
    by_cases c5 : a0_0 = 101
    · rw [if_pos c5] at H
      have c5b0 : (a0_0 == 101) = true := beq_iff_eq.mpr c5
      have c5b1 : (a0_0 != 101) = false := bne_eq_false_iff_eq.mpr c5
      clear c5
      (first | rw [c5b0] | (simp only [i64_w, i32_w]; rw [c5b0]) | skip)
      have H' := Aside0.mk H
      clear H
      exact abacuslaw15_wrong.w1
    · rw [if_neg c5] at H
      have c5b0 : (a0_0 == 101) = false := beq_eq_false_iff_ne.mpr c5
      have c5b1 : (a0_0 != 101) = true := bne_iff_ne.mpr c5
      (first | rw [c5b0] | (simp only [i64_w, i32_w]; rw [c5b0]) | skip)
      by_cases c6 : a0_0 = 69
      · rw [if_pos c6] at H
        have c6b0 : (a0_0 == 69) = true := beq_iff_eq.mpr c6
        have c6b1 : (a0_0 != 69) = false := bne_eq_false_iff_eq.mpr c6
        clear c6
        have H' := Aside0.mk H
        clear H
        exact abacuslaw15_wrong.w1
      · rw [if_neg c6] at H
        have c6b0 : (a0_0 == 69) = false := beq_eq_false_iff_ne.mpr c6
        have c6b1 : (a0_0 != 69) = true := bne_iff_ne.mpr c6
        by_cases c7 : a0_0 = 102
        · rw [if_pos c7] at H
          have c7b0 : (a0_0 == 102) = true := beq_iff_eq.mpr c7
          have c7b1 : (a0_0 != 102) = false := bne_eq_false_iff_eq.mpr c7
          clear c7
          have H' := Aside0.mk H
          clear H
          exact abacuslaw15_wrong.w1
        · rw [if_neg c7] at H
          have c7b0 : (a0_0 == 102) = false := beq_eq_false_iff_ne.mpr c7
          have c7b1 : (a0_0 != 102) = true := bne_iff_ne.mpr c7
          by_cases c8 : a0_0 = 70
          · rw [if_pos c8] at H
            have c8b0 : (a0_0 == 70) = true := beq_iff_eq.mpr c8
            have c8b1 : (a0_0 != 70) = false := bne_eq_false_iff_eq.mpr c8
            clear c8
            have H' := Aside0.mk H
            clear H
            exact abacuslaw15_wrong.w1
          · rw [if_neg c8] at H
            have c8b0 : (a0_0 == 70) = false := beq_eq_false_iff_ne.mpr c8
            have c8b1 : (a0_0 != 70) = true := bne_iff_ne.mpr c8
            by_cases c9 : a0_0 = 103
            · rw [if_pos c9] at H
              have c9b0 : (a0_0 == 103) = true := beq_iff_eq.mpr c9
              have c9b1 : (a0_0 != 103) = false := bne_eq_false_iff_eq.mpr c9
              clear c9
              have H' := Aside0.mk H
              clear H
              exact abacuslaw15_wrong.w1
            · rw [if_neg c9] at H
              have c9b0 : (a0_0 == 103) = false := beq_eq_false_iff_ne.mpr c9
              have c9b1 : (a0_0 != 103) = true := bne_iff_ne.mpr c9
              by_cases c10 : a0_0 = 71
              · rw [if_pos c10] at H
                have c10b0 : (a0_0 == 71) = true := beq_iff_eq.mpr c10
                have c10b1 : (a0_0 != 71) = false := bne_eq_false_iff_eq.mpr c10
                clear c10
                have H' := Aside0.mk H
                clear H
                exact abacuslaw15_wrong.w1
              · rw [if_neg c10] at H
                have c10b0 : (a0_0 == 71) = false := beq_eq_false_iff_ne.mpr c10
                have c10b1 : (a0_0 != 71) = true := bne_iff_ne.mpr c10
                obtain rfl := Option.some.inj H
                exact abacuslaw15_wrong.w2
  case rest =>
    clear HC2
    try clear c1
    try clear p2
    try clear c5
    try clear c5b0
    try clear c5b1
    try clear c6
    try clear c6b0
    try clear c6b1
    try clear c7
    try clear c7b0
    try clear c7b1
    try clear c8
    try clear c8b0
    try clear c8b1
    try clear c9
    try clear c9b0
    try clear c9b1
    try clear c10
    try clear c10b0
    try clear c10b1
    try clear hcz4_0
    try clear hcz4_1
    try clear hcz4_2
    try clear hcz4_3
    try clear hfz4_0
    try clear hfz4_1
    try clear hfz4_2
    try clear hfz4_3
    obtain ⟨kq, HA, HJ1, BK326, HB⟩ := hcut
    cases kq with
    | zero => exact absurd HA.out (by simp [abacuslaw15_wrong.j0])
    | succ kj1 =>
      have H := HA.out
      clear HA
      simp only [abacuslaw15_wrong.j0] at H
      have HC11 := Aside0.mk H
      clear H
      go_upto_region 9 with (fail)
      go_cut [29] (fun v29 wc => ∃ (kq : Nat) (x29_10 : Bool), v29 = .bool x29_10 ∧ Aside0 (abacuslaw15_wrong.j1 kq x29_10 a0_0 a0_1 a0_2 a0_3 = some r) ∧ Aside0 (kq ≤ kj1) ∧ Aside0 (wc.heap[gb326]? = some (.cells #[.int .u8 a0_0, .int .i64 a0_1, .int .i64 a0_2, .int .i64 a0_3] 23 (0, 0))) ∧ Aside0 (Below w.heap.size w wc))
      case first =>
        have H := HC11.out
        clear HC11
        by_cases c12 : a0_1 < 0
        · rw [if_pos c12] at H
          have c12b0 : decide (a0_1 < 0) = true := decide_eq_true c12
          clear c12
          (first | rw [c12b0] | (simp only [i64_w, i32_w]; rw [c12b0]) | skip)
          have H' := Aside0.mk H
          clear H
          have hcz13_0 : wc.cell? ⟨gb326, 0, none⟩ = some (.int .u8 a0_0) := (blk_cell BK326.out 0).trans rfl
          have hcz13_1 : wc.cell? ⟨gb326, 1, none⟩ = some (.int .i64 a0_1) := (blk_cell BK326.out 1).trans rfl
          have hcz13_2 : wc.cell? ⟨gb326, 2, none⟩ = some (.int .i64 a0_2) := (blk_cell BK326.out 2).trans rfl
          have hcz13_3 : wc.cell? ⟨gb326, 3, none⟩ = some (.int .i64 a0_3) := (blk_cell BK326.out 3).trans rfl
          have hfz13_0 := blk_frozen BK326.out 0
          have hfz13_1 := blk_frozen BK326.out 1
          have hfz13_2 := blk_frozen BK326.out 2
          have hfz13_3 := blk_frozen BK326.out 3
          exact abacuslaw15_wrong.w3
        · rw [if_neg c12] at H
          have c12b0 : decide (a0_1 < 0) = false := decide_eq_false c12
          clear c12
          (first | rw [c12b0] | (simp only [i64_w, i32_w]; rw [c12b0]) | skip)
          by_cases c14 : a0_1 > 31
          · rw [if_pos c14] at H
            have c14b0 : decide (31 < a0_1) = true := decide_eq_true c14
            clear c14
            have H' := Aside0.mk H
            clear H
            have hcz15_0 : wc.cell? ⟨gb326, 0, none⟩ = some (.int .u8 a0_0) := (blk_cell BK326.out 0).trans rfl
            have hcz15_1 : wc.cell? ⟨gb326, 1, none⟩ = some (.int .i64 a0_1) := (blk_cell BK326.out 1).trans rfl
            have hcz15_2 : wc.cell? ⟨gb326, 2, none⟩ = some (.int .i64 a0_2) := (blk_cell BK326.out 2).trans rfl
            have hcz15_3 : wc.cell? ⟨gb326, 3, none⟩ = some (.int .i64 a0_3) := (blk_cell BK326.out 3).trans rfl
            have hfz15_0 := blk_frozen BK326.out 0
            have hfz15_1 := blk_frozen BK326.out 1
            have hfz15_2 := blk_frozen BK326.out 2
            have hfz15_3 := blk_frozen BK326.out 3
            exact abacuslaw15_wrong.w3
          · rw [if_neg c14] at H
            have c14b0 : decide (31 < a0_1) = false := decide_eq_false c14
            clear c14
            by_cases c16 : a0_2 < 0
            · rw [if_pos c16] at H
              have c16b0 : decide (a0_2 < 0) = true := decide_eq_true c16
              clear c16
              have H' := Aside0.mk H
              clear H
              have hcz17_0 : wc.cell? ⟨gb326, 0, none⟩ = some (.int .u8 a0_0) := (blk_cell BK326.out 0).trans rfl
              have hcz17_1 : wc.cell? ⟨gb326, 1, none⟩ = some (.int .i64 a0_1) := (blk_cell BK326.out 1).trans rfl
              have hcz17_2 : wc.cell? ⟨gb326, 2, none⟩ = some (.int .i64 a0_2) := (blk_cell BK326.out 2).trans rfl
              have hcz17_3 : wc.cell? ⟨gb326, 3, none⟩ = some (.int .i64 a0_3) := (blk_cell BK326.out 3).trans rfl
              have hfz17_0 := blk_frozen BK326.out 0
              have hfz17_1 := blk_frozen BK326.out 1
              have hfz17_2 := blk_frozen BK326.out 2
              have hfz17_3 := blk_frozen BK326.out 3
              exact abacuslaw15_wrong.w3
            · rw [if_neg c16] at H
              have c16b0 : decide (a0_2 < 0) = false := decide_eq_false c16
              clear c16
              have H' := Aside0.mk H
              clear H
              have hcz18_0 : wc.cell? ⟨gb326, 0, none⟩ = some (.int .u8 a0_0) := (blk_cell BK326.out 0).trans rfl
              have hcz18_1 : wc.cell? ⟨gb326, 1, none⟩ = some (.int .i64 a0_1) := (blk_cell BK326.out 1).trans rfl
              have hcz18_2 : wc.cell? ⟨gb326, 2, none⟩ = some (.int .i64 a0_2) := (blk_cell BK326.out 2).trans rfl
              have hcz18_3 : wc.cell? ⟨gb326, 3, none⟩ = some (.int .i64 a0_3) := (blk_cell BK326.out 3).trans rfl
              have hfz18_0 := blk_frozen BK326.out 0
              have hfz18_1 := blk_frozen BK326.out 1
              have hfz18_2 := blk_frozen BK326.out 2
              have hfz18_3 := blk_frozen BK326.out 3
              go_wp2
              go_meet
              case rel => exact ⟨_, (decide (a0_3 < (-1))), (by first | rfl | (simp; done) | (simp [*]; done)), H', ⟨by have := HJ1.out; first | omega | exact Nat.le_refl _⟩, ⟨by exact phCx13_7⟩, ⟨by exact phCx13_4⟩⟩
      case rest =>
        clear HC11
        try clear c1
        try clear p2
        try clear c5
        try clear c5b0
        try clear c5b1
        try clear c6
        try clear c6b0
        try clear c6b1
        try clear c7
        try clear c7b0
        try clear c7b1
        try clear c8
        try clear c8b0
        try clear c8b1
        try clear c9
        try clear c9b0
        try clear c9b1
        try clear c10
        try clear c10b0
        try clear c10b1
        try clear c12
        try clear c12b0
        try clear c14
        try clear c14b0
        try clear c15
        try clear c16
        try clear c16b0
        try clear hcz13_0
        try clear hcz13_1
        try clear hcz13_2
        try clear hcz13_3
        try clear hcz15_0
        try clear hcz15_1
        try clear hcz15_2
        try clear hcz15_3
        try clear hcz17_0
        try clear hcz17_1
        try clear hcz17_2
        try clear hcz17_3
        try clear hcz18_0
        try clear hcz18_1
        try clear hcz18_2
        try clear hcz18_3
        try clear hcz4_0
        try clear hcz4_1
        try clear hcz4_2
        try clear hcz4_3
        try clear hfz13_0
        try clear hfz13_1
        try clear hfz13_2
        try clear hfz13_3
        try clear hfz15_0
        try clear hfz15_1
        try clear hfz15_2
        try clear hfz15_3
        try clear hfz17_0
        try clear hfz17_1
        try clear hfz17_2
        try clear hfz17_3
        try clear hfz18_0
        try clear hfz18_1
        try clear hfz18_2
        try clear hfz18_3
        try clear hfz4_0
        try clear hfz4_1
        try clear hfz4_2
        try clear hfz4_3
        try clear p2
        obtain ⟨kq, x29_10, rfl, HA, HJ10, BK326, HB⟩ := hcut
        cases kq with
        | zero => exact absurd HA.out (by simp [abacuslaw15_wrong.j1])
        | succ kj10 =>
          have H := HA.out
          clear HA
          simp only [abacuslaw15_wrong.j1] at H
          by_cases c19 : x29_10 = true
          · subst c19
            have H1 : (some 1) = some r := by rw [if_pos rfl] at H; exact H
            clear H
            have H := H1
            clear H1
            obtain rfl := Option.some.inj H
            exact abacuslaw15_wrong.w2
          · replace c19 := Bool.eq_false_iff.mpr c19
            subst c19
            have H1 : (if a0_2 > 4096 then (some 6) else (if a0_3 > 4096 then (some 6) else (some 0))) = some r := by rw [if_neg (show ¬ (false = true) by decide)] at H; exact H
            clear H
            have H := H1
            clear H1
            by_cases c20 : a0_2 > 4096
            · rw [if_pos c20] at H
              have c20b0 : decide (4096 < a0_2) = true := decide_eq_true c20
              clear c20
              obtain rfl := Option.some.inj H
              have hcz21_0 : wc.cell? ⟨gb326, 0, none⟩ = some (.int .u8 a0_0) := (blk_cell BK326.out 0).trans rfl
              have hcz21_1 : wc.cell? ⟨gb326, 1, none⟩ = some (.int .i64 a0_1) := (blk_cell BK326.out 1).trans rfl
              have hcz21_2 : wc.cell? ⟨gb326, 2, none⟩ = some (.int .i64 a0_2) := (blk_cell BK326.out 2).trans rfl
              have hcz21_3 : wc.cell? ⟨gb326, 3, none⟩ = some (.int .i64 a0_3) := (blk_cell BK326.out 3).trans rfl
              have hfz21_0 := blk_frozen BK326.out 0
              have hfz21_1 := blk_frozen BK326.out 1
              have hfz21_2 := blk_frozen BK326.out 2
              have hfz21_3 := blk_frozen BK326.out 3
              exact abacuslaw15_wrong.w2
            · rw [if_neg c20] at H
              have c20b0 : decide (4096 < a0_2) = false := decide_eq_false c20
              clear c20
              by_cases c22 : a0_3 > 4096
              · rw [if_pos c22] at H
                have c22b0 : decide (4096 < a0_3) = true := decide_eq_true c22
                clear c22
                obtain rfl := Option.some.inj H
                have hcz23_0 : wc.cell? ⟨gb326, 0, none⟩ = some (.int .u8 a0_0) := (blk_cell BK326.out 0).trans rfl
                have hcz23_1 : wc.cell? ⟨gb326, 1, none⟩ = some (.int .i64 a0_1) := (blk_cell BK326.out 1).trans rfl
                have hcz23_2 : wc.cell? ⟨gb326, 2, none⟩ = some (.int .i64 a0_2) := (blk_cell BK326.out 2).trans rfl
                have hcz23_3 : wc.cell? ⟨gb326, 3, none⟩ = some (.int .i64 a0_3) := (blk_cell BK326.out 3).trans rfl
                have hfz23_0 := blk_frozen BK326.out 0
                have hfz23_1 := blk_frozen BK326.out 1
                have hfz23_2 := blk_frozen BK326.out 2
                have hfz23_3 := blk_frozen BK326.out 3
                exact abacuslaw15_wrong.w2
              · rw [if_neg c22] at H
                have c22b0 : decide (4096 < a0_3) = false := decide_eq_false c22
                clear c22
                obtain rfl := Option.some.inj H
                have hcz24_0 : wc.cell? ⟨gb326, 0, none⟩ = some (.int .u8 a0_0) := (blk_cell BK326.out 0).trans rfl
                have hcz24_1 : wc.cell? ⟨gb326, 1, none⟩ = some (.int .i64 a0_1) := (blk_cell BK326.out 1).trans rfl
                have hcz24_2 : wc.cell? ⟨gb326, 2, none⟩ = some (.int .i64 a0_2) := (blk_cell BK326.out 2).trans rfl
                have hcz24_3 : wc.cell? ⟨gb326, 3, none⟩ = some (.int .i64 a0_3) := (blk_cell BK326.out 3).trans rfl
                have hfz24_0 := blk_frozen BK326.out 0
                have hfz24_1 := blk_frozen BK326.out 1
                have hfz24_2 := blk_frozen BK326.out 2
                have hfz24_3 := blk_frozen BK326.out 3
                exact abacuslaw15_wrong.w2

/-! ### abacuslaw15_finite: function 16 -/
def abacuslaw15_finite.f (a0 : Int) : Option (Bool) := some (decide ((Int.tmod a0 9223372036854775808) < 9218868437227405312))
set_option maxHeartbeats 8000000 in
set_option maxRecDepth 100000 in
theorem abacuslaw15_finite.calls (a0 : Int) (r : Bool) (w : World) (h : abacuslaw15_finite.f a0 = some r) (HG : Aside0 (GW w) := by exact phCx13_5) :
    Calls Tryz.prog 16 #[.int .u64 a0] w fun e w' => e = .returned (.bool r) ∧ Drawn0 w w' := by
  have H : (some (decide ((Int.tmod a0 9223372036854775808) < 9218868437227405312))) = some r := h
  clear h
  obtain rfl := Option.some.inj H
  go_enter Tryz.func16, Tryz.ntmps16
  go_wp2
  go_ret
  exact ⟨by first | rfl | (simp; done) | (simp [*]; done), by repeat (first | exact Drawn0.refl _ | apply Drawn0.step)⟩

end Go.Proofs.YtgbjojokjekmhaaGreatDoor.PXC
