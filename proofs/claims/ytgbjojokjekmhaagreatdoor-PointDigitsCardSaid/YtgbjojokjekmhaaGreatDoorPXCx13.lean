/- The machine's side of a law, printed by a program of this session out of the translation; conditions: none. -/
import Derived.Test.YtgbjojokjekmhaaGreatDoorPXCx0
import Derived.Test.YtgbjojokjekmhaaGreatDoorPXCx3
import Derived.Test.YtgbjojokjekmhaaGreatDoorPXCx12
namespace Go.Proofs.YtgbjojokjekmhaaGreatDoor.PXC
open Go.Proofs.YtgbjojokjekmhaaGreatDoor
open Go.RowKit Go.Proofs.YtgbjojokjekmhaaGreatDoorW.PrintWords Go.Proofs.YtgbjojokjekmhaaGreatDoorW.PrintLast Go.Proofs.YtgbjojokjekmhaaGreatDoorW.PrintMore
attribute [local go_sem] max2_int min2_int max_two min_two max_three min_three max_four min_four   -- for this text's walks alone
set_option linter.unusedVariables false
set_option linter.unusedSimpArgs false

/-! ### abacuslaw15_awake: function 13 -/
def abacuslaw15_awake.f (k : Nat)  : Option (Bool) := (point_Render.f k 102 18 8 2 13832806255468478464).bind fun bt319 => ((point_Render.f k 102 18 8 2 4609434218613702656).bind fun bt321 => ((point_Special.f k 69 0 6 (-1) 18442240474082181120).bind fun bt323 => (if bt319.1.toList = ([45, 48, 48, 48, 49, 46, 53, 48] : List UInt8) then (if bt321.1.toList = ([43, 48, 48, 48, 49, 46, 53, 48] : List UInt8) then (if bt323.1.toList = ([32, 32, 45, 73, 78, 70] : List UInt8) then (if bt323.2.1 = true then (if bt319.2 = 0 then (if bt321.2 = 0 then (some (bt323.2.2 == 0)) else (some false)) else (some false)) else (some false)) else (some false)) else (some false)) else (some false))))
theorem abacuslaw15_awake.mono : ∀ k, LeO (abacuslaw15_awake.f k ) (abacuslaw15_awake.f (k + 1) ) := by
  intro  k; unfold abacuslaw15_awake.f; repeat' first
      | (with_reducible exact point_Render.mono _ _ _ _ _ _)
      | (with_reducible exact point_Special.mono _ _ _ _ _ _)
      | (with_reducible exact LeO.refl _)
      | (with_reducible exact LeO.none _)
      | (with_reducible refine LeO.ite ?_ ?_)
      | (with_reducible refine LeO.bind ?_ (fun _ => ?_))
      | exact point_Render.mono _ _ _ _ _ _
      | exact point_Special.mono _ _ _ _ _ _
      | exact LeO.none _
      | refine LeO.ite ?_ ?_
      | refine LeO.bind ?_ (fun _ => ?_)
set_option maxHeartbeats 8000000 in
set_option maxRecDepth 100000 in
theorem abacuslaw15_awake.calls (k : Nat)  (r : Bool) (w : World) (h : abacuslaw15_awake.f k  = some r) (HG : Aside0 (GW w) := by exact pz5) :
    Calls Tryz.prog 13 #[] w fun e w' => e = .returned (.bool r) ∧ Below w.heap.size w w' := by
  have hu23 := Tryz.underlying23; have HB := Aside0.mk (Below.refl w.heap.size w); have H : ((point_Render.f k 102 18 8 2 13832806255468478464).bind fun bt319 => ((point_Render.f k 102 18 8 2 4609434218613702656).bind fun bt321 => ((point_Special.f k 69 0 6 (-1) 18442240474082181120).bind fun bt323 => (if bt319.1.toList = ([45, 48, 48, 48, 49, 46, 53, 48] : List UInt8) then (if bt321.1.toList = ([43, 48, 48, 48, 49, 46, 53, 48] : List UInt8) then (if bt323.1.toList = ([32, 32, 45, 73, 78, 70] : List UInt8) then (if bt323.2.1 = true then (if bt319.2 = 0 then (if bt321.2 = 0 then (some (bt323.2.2 == 0)) else (some false)) else (some false)) else (some false)) else (some false)) else (some false)) else (some false))))) = some r := h; clear h; replace H := Option.bind_eq_some_iff.mp H; obtain ⟨⟨t319, t320⟩, A10, H⟩ := H; (try dsimp only at H); have A1 := Aside0.mk A10; clear A10; replace H := Option.bind_eq_some_iff.mp H; obtain ⟨⟨t321, t322⟩, A20, H⟩ := H; (try dsimp only at H); have A2 := Aside0.mk A20; clear A20; replace H := Option.bind_eq_some_iff.mp H; obtain ⟨⟨t323, t324, t325⟩, A30, H⟩ := H; (try dsimp only at H); have A3 := Aside0.mk A30; clear A30; by_cases c4 : t319.toList = ([45, 48, 48, 48, 49, 46, 53, 48] : List UInt8)
  · rw [if_pos c4] at H
    have c4b0 : (t319.toList == ([45, 48, 48, 48, 49, 46, 53, 48] : List UInt8)) = true := beq_iff_eq.mpr c4; have c4b1 : (t319.toList != ([45, 48, 48, 48, 49, 46, 53, 48] : List UInt8)) = false := bne_eq_false_iff_eq.mpr c4; clear c4; by_cases c5 : t321.toList = ([43, 48, 48, 48, 49, 46, 53, 48] : List UInt8)
    · rw [if_pos c5] at H
      have c5b0 : (t321.toList == ([43, 48, 48, 48, 49, 46, 53, 48] : List UInt8)) = true := beq_iff_eq.mpr c5; have c5b1 : (t321.toList != ([43, 48, 48, 48, 49, 46, 53, 48] : List UInt8)) = false := bne_eq_false_iff_eq.mpr c5; clear c5; by_cases c6 : t323.toList = ([32, 32, 45, 73, 78, 70] : List UInt8)
      · rw [if_pos c6] at H
        have c6b0 : (t323.toList == ([32, 32, 45, 73, 78, 70] : List UInt8)) = true := beq_iff_eq.mpr c6; have c6b1 : (t323.toList != ([32, 32, 45, 73, 78, 70] : List UInt8)) = false := bne_eq_false_iff_eq.mpr c6; clear c6; by_cases c7 : t324 = true
        · subst c7
          have H1 : (if t320 = 0 then (if t322 = 0 then (some (t325 == 0)) else (some false)) else (some false)) = some r := by rw [if_pos rfl] at H; exact H
          clear H; have H := H1; clear H1; by_cases c8 : t320 = 0
          · rw [if_pos c8] at H
            have c8b0 : (t320 == 0) = true := beq_iff_eq.mpr c8; have c8b1 : (t320 != 0) = false := bne_eq_false_iff_eq.mpr c8; clear c8; by_cases c9 : t322 = 0
            · rw [if_pos c9] at H
              have c9b0 : (t322 == 0) = true := beq_iff_eq.mpr c9; have c9b1 : (t322 != 0) = false := bne_eq_false_iff_eq.mpr c9; clear c9; obtain rfl := Option.some.inj H; go_enter Tryz.func13, Tryz.ntmps13; go_wp2_with (first | ((with_reducible refine gate_callee (f := 14) rfl ?_); refine goesL_ (some 10) rfl rfl Tryz.func14 (by kernel_rfl) rfl #[.agg #[.int .u8 102, .int .i64 18, .int .i64 8, .int .i64 2], .int .u64 13832806255468478464] rfl (by exact pz4) ?_; (with_reducible refine (point_Render.calls k 102 18 8 2 13832806255468478464 t319 t320 _ A1.out).mono ?_); rintro e w10 ⟨rfl, hb⟩; refine ⟨_, rfl, ?_⟩; have n0_ := Aside0.mk (below_step (by exact pz1) hb); clear HB; have HB := n0_; clear n0_; (try clear hb); (try clear hb2); (try clear hk); (try clear hi)) | ((with_reducible refine gate_callee (f := 14) rfl ?_); refine goesL_ (some 15) rfl rfl Tryz.func14 (by kernel_rfl) rfl #[.agg #[.int .u8 102, .int .i64 18, .int .i64 8, .int .i64 2], .int .u64 4609434218613702656] rfl (by exact pz4) ?_; (with_reducible refine (point_Render.calls k 102 18 8 2 4609434218613702656 t321 t322 _ A2.out).mono ?_); rintro e w11 ⟨rfl, hb⟩; refine ⟨_, rfl, ?_⟩; have n0_ := Aside0.mk (below_step (by exact pz1) hb); clear HB; have HB := n0_; clear n0_; (try clear hb); (try clear hb2); (try clear hk); (try clear hi)) | ((with_reducible refine gate_callee (f := 17) rfl ?_); refine goesL_ (some 20) rfl rfl Tryz.func17 (by kernel_rfl) rfl #[.agg #[.int .u8 69, .int .i64 0, .int .i64 6, .int .i64 (-1)], .int .u64 18442240474082181120] rfl (by exact pz4) ?_; (with_reducible refine (point_Special.calls k 69 0 6 (-1) 18442240474082181120 t323 true t325 _ A3.out).mono ?_); rintro e w12 ⟨rfl, hb⟩; refine ⟨_, rfl, ?_⟩; have n0_ := Aside0.mk (below_step (by exact pz1) hb); clear HB; have HB := n0_; clear n0_; (try clear hb); (try clear hb2); (try clear hk); (try clear hi))); go_ret; exact ⟨by exact pz2, by exact pz1⟩
            rw [if_neg c9] at H; have c9b0 : (t322 == 0) = false := beq_eq_false_iff_ne.mpr c9; have c9b1 : (t322 != 0) = true := bne_iff_ne.mpr c9; obtain rfl := Option.some.inj H; go_enter Tryz.func13, Tryz.ntmps13; go_wp2_with (first | ((with_reducible refine gate_callee (f := 14) rfl ?_); refine goesL_ (some 10) rfl rfl Tryz.func14 (by kernel_rfl) rfl #[.agg #[.int .u8 102, .int .i64 18, .int .i64 8, .int .i64 2], .int .u64 13832806255468478464] rfl (by exact pz4) ?_; (with_reducible refine (point_Render.calls k 102 18 8 2 13832806255468478464 t319 t320 _ A1.out).mono ?_); rintro e w13 ⟨rfl, hb⟩; refine ⟨_, rfl, ?_⟩; have n0_ := Aside0.mk (below_step (by exact pz1) hb); clear HB; have HB := n0_; clear n0_; (try clear hb); (try clear hb2); (try clear hk); (try clear hi)) | ((with_reducible refine gate_callee (f := 14) rfl ?_); refine goesL_ (some 15) rfl rfl Tryz.func14 (by kernel_rfl) rfl #[.agg #[.int .u8 102, .int .i64 18, .int .i64 8, .int .i64 2], .int .u64 4609434218613702656] rfl (by exact pz4) ?_; (with_reducible refine (point_Render.calls k 102 18 8 2 4609434218613702656 t321 t322 _ A2.out).mono ?_); rintro e w14 ⟨rfl, hb⟩; refine ⟨_, rfl, ?_⟩; have n0_ := Aside0.mk (below_step (by exact pz1) hb); clear HB; have HB := n0_; clear n0_; (try clear hb); (try clear hb2); (try clear hk); (try clear hi)) | ((with_reducible refine gate_callee (f := 17) rfl ?_); refine goesL_ (some 20) rfl rfl Tryz.func17 (by kernel_rfl) rfl #[.agg #[.int .u8 69, .int .i64 0, .int .i64 6, .int .i64 (-1)], .int .u64 18442240474082181120] rfl (by exact pz4) ?_; (with_reducible refine (point_Special.calls k 69 0 6 (-1) 18442240474082181120 t323 true t325 _ A3.out).mono ?_); rintro e w15 ⟨rfl, hb⟩; refine ⟨_, rfl, ?_⟩; have n0_ := Aside0.mk (below_step (by exact pz1) hb); clear HB; have HB := n0_; clear n0_; (try clear hb); (try clear hb2); (try clear hk); (try clear hi))); go_ret; exact ⟨by exact pz2, by exact pz1⟩
          rw [if_neg c8] at H; have c8b0 : (t320 == 0) = false := beq_eq_false_iff_ne.mpr c8; have c8b1 : (t320 != 0) = true := bne_iff_ne.mpr c8; obtain rfl := Option.some.inj H; go_enter Tryz.func13, Tryz.ntmps13; go_wp2_with (first | ((with_reducible refine gate_callee (f := 14) rfl ?_); refine goesL_ (some 10) rfl rfl Tryz.func14 (by kernel_rfl) rfl #[.agg #[.int .u8 102, .int .i64 18, .int .i64 8, .int .i64 2], .int .u64 13832806255468478464] rfl (by exact pz4) ?_; (with_reducible refine (point_Render.calls k 102 18 8 2 13832806255468478464 t319 t320 _ A1.out).mono ?_); rintro e w16 ⟨rfl, hb⟩; refine ⟨_, rfl, ?_⟩; have n0_ := Aside0.mk (below_step (by exact pz1) hb); clear HB; have HB := n0_; clear n0_; (try clear hb); (try clear hb2); (try clear hk); (try clear hi)) | ((with_reducible refine gate_callee (f := 14) rfl ?_); refine goesL_ (some 15) rfl rfl Tryz.func14 (by kernel_rfl) rfl #[.agg #[.int .u8 102, .int .i64 18, .int .i64 8, .int .i64 2], .int .u64 4609434218613702656] rfl (by exact pz4) ?_; (with_reducible refine (point_Render.calls k 102 18 8 2 4609434218613702656 t321 t322 _ A2.out).mono ?_); rintro e w17 ⟨rfl, hb⟩; refine ⟨_, rfl, ?_⟩; have n0_ := Aside0.mk (below_step (by exact pz1) hb); clear HB; have HB := n0_; clear n0_; (try clear hb); (try clear hb2); (try clear hk); (try clear hi)) | ((with_reducible refine gate_callee (f := 17) rfl ?_); refine goesL_ (some 20) rfl rfl Tryz.func17 (by kernel_rfl) rfl #[.agg #[.int .u8 69, .int .i64 0, .int .i64 6, .int .i64 (-1)], .int .u64 18442240474082181120] rfl (by exact pz4) ?_; (with_reducible refine (point_Special.calls k 69 0 6 (-1) 18442240474082181120 t323 true t325 _ A3.out).mono ?_); rintro e w18 ⟨rfl, hb⟩; refine ⟨_, rfl, ?_⟩; have n0_ := Aside0.mk (below_step (by exact pz1) hb); clear HB; have HB := n0_; clear n0_; (try clear hb); (try clear hb2); (try clear hk); (try clear hi))); go_ret; exact ⟨by exact pz2, by exact pz1⟩
        replace c7 := Bool.eq_false_iff.mpr c7; subst c7; have H1 : (some false) = some r := by rw [if_neg (show ¬ (false = true) by decide)] at H; exact H
        clear H; have H := H1; clear H1; obtain rfl := Option.some.inj H; go_enter Tryz.func13, Tryz.ntmps13; go_wp2_with (first | ((with_reducible refine gate_callee (f := 14) rfl ?_); refine goesL_ (some 10) rfl rfl Tryz.func14 (by kernel_rfl) rfl #[.agg #[.int .u8 102, .int .i64 18, .int .i64 8, .int .i64 2], .int .u64 13832806255468478464] rfl (by exact pz4) ?_; (with_reducible refine (point_Render.calls k 102 18 8 2 13832806255468478464 t319 t320 _ A1.out).mono ?_); rintro e w19 ⟨rfl, hb⟩; refine ⟨_, rfl, ?_⟩; have n0_ := Aside0.mk (below_step (by exact pz1) hb); clear HB; have HB := n0_; clear n0_; (try clear hb); (try clear hb2); (try clear hk); (try clear hi)) | ((with_reducible refine gate_callee (f := 14) rfl ?_); refine goesL_ (some 15) rfl rfl Tryz.func14 (by kernel_rfl) rfl #[.agg #[.int .u8 102, .int .i64 18, .int .i64 8, .int .i64 2], .int .u64 4609434218613702656] rfl (by exact pz4) ?_; (with_reducible refine (point_Render.calls k 102 18 8 2 4609434218613702656 t321 t322 _ A2.out).mono ?_); rintro e w20 ⟨rfl, hb⟩; refine ⟨_, rfl, ?_⟩; have n0_ := Aside0.mk (below_step (by exact pz1) hb); clear HB; have HB := n0_; clear n0_; (try clear hb); (try clear hb2); (try clear hk); (try clear hi)) | ((with_reducible refine gate_callee (f := 17) rfl ?_); refine goesL_ (some 20) rfl rfl Tryz.func17 (by kernel_rfl) rfl #[.agg #[.int .u8 69, .int .i64 0, .int .i64 6, .int .i64 (-1)], .int .u64 18442240474082181120] rfl (by exact pz4) ?_; (with_reducible refine (point_Special.calls k 69 0 6 (-1) 18442240474082181120 t323 false t325 _ A3.out).mono ?_); rintro e w21 ⟨rfl, hb⟩; refine ⟨_, rfl, ?_⟩; have n0_ := Aside0.mk (below_step (by exact pz1) hb); clear HB; have HB := n0_; clear n0_; (try clear hb); (try clear hb2); (try clear hk); (try clear hi))); go_ret; exact ⟨by exact pz2, by exact pz1⟩
      rw [if_neg c6] at H; have c6b0 : (t323.toList == ([32, 32, 45, 73, 78, 70] : List UInt8)) = false := beq_eq_false_iff_ne.mpr c6; have c6b1 : (t323.toList != ([32, 32, 45, 73, 78, 70] : List UInt8)) = true := bne_iff_ne.mpr c6; obtain rfl := Option.some.inj H; go_enter Tryz.func13, Tryz.ntmps13; go_wp2_with (first | ((with_reducible refine gate_callee (f := 14) rfl ?_); refine goesL_ (some 10) rfl rfl Tryz.func14 (by kernel_rfl) rfl #[.agg #[.int .u8 102, .int .i64 18, .int .i64 8, .int .i64 2], .int .u64 13832806255468478464] rfl (by exact pz4) ?_; (with_reducible refine (point_Render.calls k 102 18 8 2 13832806255468478464 t319 t320 _ A1.out).mono ?_); rintro e w22 ⟨rfl, hb⟩; refine ⟨_, rfl, ?_⟩; have n0_ := Aside0.mk (below_step (by exact pz1) hb); clear HB; have HB := n0_; clear n0_; (try clear hb); (try clear hb2); (try clear hk); (try clear hi)) | ((with_reducible refine gate_callee (f := 14) rfl ?_); refine goesL_ (some 15) rfl rfl Tryz.func14 (by kernel_rfl) rfl #[.agg #[.int .u8 102, .int .i64 18, .int .i64 8, .int .i64 2], .int .u64 4609434218613702656] rfl (by exact pz4) ?_; (with_reducible refine (point_Render.calls k 102 18 8 2 4609434218613702656 t321 t322 _ A2.out).mono ?_); rintro e w23 ⟨rfl, hb⟩; refine ⟨_, rfl, ?_⟩; have n0_ := Aside0.mk (below_step (by exact pz1) hb); clear HB; have HB := n0_; clear n0_; (try clear hb); (try clear hb2); (try clear hk); (try clear hi)) | ((with_reducible refine gate_callee (f := 17) rfl ?_); refine goesL_ (some 20) rfl rfl Tryz.func17 (by kernel_rfl) rfl #[.agg #[.int .u8 69, .int .i64 0, .int .i64 6, .int .i64 (-1)], .int .u64 18442240474082181120] rfl (by exact pz4) ?_; (with_reducible refine (point_Special.calls k 69 0 6 (-1) 18442240474082181120 t323 t324 t325 _ A3.out).mono ?_); rintro e w24 ⟨rfl, hb⟩; refine ⟨_, rfl, ?_⟩; have n0_ := Aside0.mk (below_step (by exact pz1) hb); clear HB; have HB := n0_; clear n0_; (try clear hb); (try clear hb2); (try clear hk); (try clear hi))); go_ret; exact ⟨by exact pz2, by exact pz1⟩
    rw [if_neg c5] at H; have c5b0 : (t321.toList == ([43, 48, 48, 48, 49, 46, 53, 48] : List UInt8)) = false := beq_eq_false_iff_ne.mpr c5; have c5b1 : (t321.toList != ([43, 48, 48, 48, 49, 46, 53, 48] : List UInt8)) = true := bne_iff_ne.mpr c5; obtain rfl := Option.some.inj H; go_enter Tryz.func13, Tryz.ntmps13; go_wp2_with (first | ((with_reducible refine gate_callee (f := 14) rfl ?_); refine goesL_ (some 10) rfl rfl Tryz.func14 (by kernel_rfl) rfl #[.agg #[.int .u8 102, .int .i64 18, .int .i64 8, .int .i64 2], .int .u64 13832806255468478464] rfl (by exact pz4) ?_; (with_reducible refine (point_Render.calls k 102 18 8 2 13832806255468478464 t319 t320 _ A1.out).mono ?_); rintro e w25 ⟨rfl, hb⟩; refine ⟨_, rfl, ?_⟩; have n0_ := Aside0.mk (below_step (by exact pz1) hb); clear HB; have HB := n0_; clear n0_; (try clear hb); (try clear hb2); (try clear hk); (try clear hi)) | ((with_reducible refine gate_callee (f := 14) rfl ?_); refine goesL_ (some 15) rfl rfl Tryz.func14 (by kernel_rfl) rfl #[.agg #[.int .u8 102, .int .i64 18, .int .i64 8, .int .i64 2], .int .u64 4609434218613702656] rfl (by exact pz4) ?_; (with_reducible refine (point_Render.calls k 102 18 8 2 4609434218613702656 t321 t322 _ A2.out).mono ?_); rintro e w26 ⟨rfl, hb⟩; refine ⟨_, rfl, ?_⟩; have n0_ := Aside0.mk (below_step (by exact pz1) hb); clear HB; have HB := n0_; clear n0_; (try clear hb); (try clear hb2); (try clear hk); (try clear hi)) | ((with_reducible refine gate_callee (f := 17) rfl ?_); refine goesL_ (some 20) rfl rfl Tryz.func17 (by kernel_rfl) rfl #[.agg #[.int .u8 69, .int .i64 0, .int .i64 6, .int .i64 (-1)], .int .u64 18442240474082181120] rfl (by exact pz4) ?_; (with_reducible refine (point_Special.calls k 69 0 6 (-1) 18442240474082181120 t323 t324 t325 _ A3.out).mono ?_); rintro e w27 ⟨rfl, hb⟩; refine ⟨_, rfl, ?_⟩; have n0_ := Aside0.mk (below_step (by exact pz1) hb); clear HB; have HB := n0_; clear n0_; (try clear hb); (try clear hb2); (try clear hk); (try clear hi))); go_ret; exact ⟨by exact pz2, by exact pz1⟩
  rw [if_neg c4] at H; have c4b0 : (t319.toList == ([45, 48, 48, 48, 49, 46, 53, 48] : List UInt8)) = false := beq_eq_false_iff_ne.mpr c4; have c4b1 : (t319.toList != ([45, 48, 48, 48, 49, 46, 53, 48] : List UInt8)) = true := bne_iff_ne.mpr c4; obtain rfl := Option.some.inj H; go_enter Tryz.func13, Tryz.ntmps13; go_wp2_with (first | ((with_reducible refine gate_callee (f := 14) rfl ?_); refine goesL_ (some 10) rfl rfl Tryz.func14 (by kernel_rfl) rfl #[.agg #[.int .u8 102, .int .i64 18, .int .i64 8, .int .i64 2], .int .u64 13832806255468478464] rfl (by exact pz4) ?_; (with_reducible refine (point_Render.calls k 102 18 8 2 13832806255468478464 t319 t320 _ A1.out).mono ?_); rintro e w28 ⟨rfl, hb⟩; refine ⟨_, rfl, ?_⟩; have n0_ := Aside0.mk (below_step (by exact pz1) hb); clear HB; have HB := n0_; clear n0_; (try clear hb); (try clear hb2); (try clear hk); (try clear hi)) | ((with_reducible refine gate_callee (f := 14) rfl ?_); refine goesL_ (some 15) rfl rfl Tryz.func14 (by kernel_rfl) rfl #[.agg #[.int .u8 102, .int .i64 18, .int .i64 8, .int .i64 2], .int .u64 4609434218613702656] rfl (by exact pz4) ?_; (with_reducible refine (point_Render.calls k 102 18 8 2 4609434218613702656 t321 t322 _ A2.out).mono ?_); rintro e w29 ⟨rfl, hb⟩; refine ⟨_, rfl, ?_⟩; have n0_ := Aside0.mk (below_step (by exact pz1) hb); clear HB; have HB := n0_; clear n0_; (try clear hb); (try clear hb2); (try clear hk); (try clear hi)) | ((with_reducible refine gate_callee (f := 17) rfl ?_); refine goesL_ (some 20) rfl rfl Tryz.func17 (by kernel_rfl) rfl #[.agg #[.int .u8 69, .int .i64 0, .int .i64 6, .int .i64 (-1)], .int .u64 18442240474082181120] rfl (by exact pz4) ?_; (with_reducible refine (point_Special.calls k 69 0 6 (-1) 18442240474082181120 t323 t324 t325 _ A3.out).mono ?_); rintro e w30 ⟨rfl, hb⟩; refine ⟨_, rfl, ?_⟩; have n0_ := Aside0.mk (below_step (by exact pz1) hb); clear HB; have HB := n0_; clear n0_; (try clear hb); (try clear hb2); (try clear hk); (try clear hi))); go_ret; exact ⟨by exact pz2, by exact pz1⟩

/-! ### abacuslaw15_wrong: function 15 -/
mutual
def abacuslaw15_wrong.j0 : Nat → Int → Int → Int → Int → Option (Int)
  | 0, _, _, _, _ => none
  | k + 1, x327000, x327001, x327002, x327003 => if x327001 < 0 then (abacuslaw15_wrong.j1 k true x327000 x327001 x327002 x327003) else (if x327001 > 31 then (abacuslaw15_wrong.j1 k true x327000 x327001 x327002 x327003) else (if x327002 < 0 then (abacuslaw15_wrong.j1 k true x327000 x327001 x327002 x327003) else (abacuslaw15_wrong.j1 k (decide (x327003 < (-1))) x327000 x327001 x327002 x327003)))
def abacuslaw15_wrong.j1 : Nat → Bool → Int → Int → Int → Int → Option (Int)
  | 0, _, _, _, _, _ => none
  | k + 1, x29, x327000, x327001, x327002, x327003 => if x29 = true then (some 1) else (if x327002 > 4096 then (some 6) else (if x327003 > 4096 then (some 6) else (some 0)))
end
def abacuslaw15_wrong.f (k : Nat) (a0_0 : Int) (a0_1 : Int) (a0_2 : Int) (a0_3 : Int) : Option (Int) := if a0_0 = 101 then (abacuslaw15_wrong.j0 k a0_0 a0_1 a0_2 a0_3) else (if a0_0 = 69 then (abacuslaw15_wrong.j0 k a0_0 a0_1 a0_2 a0_3) else (if a0_0 = 102 then (abacuslaw15_wrong.j0 k a0_0 a0_1 a0_2 a0_3) else (if a0_0 = 70 then (abacuslaw15_wrong.j0 k a0_0 a0_1 a0_2 a0_3) else (if a0_0 = 103 then (abacuslaw15_wrong.j0 k a0_0 a0_1 a0_2 a0_3) else (if a0_0 = 71 then (abacuslaw15_wrong.j0 k a0_0 a0_1 a0_2 a0_3) else (some 140))))))
theorem abacuslaw15_wrong.mono_l : ∀ k, (∀ y0 y1 y2 y3, LeO (abacuslaw15_wrong.j0 k y0 y1 y2 y3) (abacuslaw15_wrong.j0 (k + 1) y0 y1 y2 y3)) ∧ (∀ y0 y1 y2 y3 y4, LeO (abacuslaw15_wrong.j1 k y0 y1 y2 y3 y4) (abacuslaw15_wrong.j1 (k + 1) y0 y1 y2 y3 y4))
  | 0 => ⟨fun _ _ _ _ r h => by simp [abacuslaw15_wrong.j0] at h, fun _ _ _ _ _ r h => by simp [abacuslaw15_wrong.j1] at h⟩
  | k + 1 => by
    obtain ⟨ih0, ih1⟩ := abacuslaw15_wrong.mono_l k
    refine ⟨?_, ?_⟩
    · intro y0 y1 y2 y3
      unfold abacuslaw15_wrong.j0
      repeat' first
      | (with_reducible exact ih0 _ _ _ _)
      | (with_reducible exact ih1 _ _ _ _ _)
      | (with_reducible exact LeO.refl _)
      | (with_reducible exact LeO.none _)
      | (with_reducible refine LeO.ite ?_ ?_)
      | (with_reducible refine LeO.bind ?_ (fun _ => ?_))
      | exact ih0 _ _ _ _
      | exact ih1 _ _ _ _ _
      | exact LeO.none _
      | refine LeO.ite ?_ ?_
      | refine LeO.bind ?_ (fun _ => ?_)
    · intro y0 y1 y2 y3 y4
      unfold abacuslaw15_wrong.j1
      repeat' first
      | (with_reducible exact ih0 _ _ _ _)
      | (with_reducible exact ih1 _ _ _ _ _)
      | (with_reducible exact LeO.refl _)
      | (with_reducible exact LeO.none _)
      | (with_reducible refine LeO.ite ?_ ?_)
      | (with_reducible refine LeO.bind ?_ (fun _ => ?_))
      | exact ih0 _ _ _ _
      | exact ih1 _ _ _ _ _
      | exact LeO.none _
      | refine LeO.ite ?_ ?_
      | refine LeO.bind ?_ (fun _ => ?_)
theorem abacuslaw15_wrong.mono : ∀ a0 a1 a2 a3 k, LeO (abacuslaw15_wrong.f k a0 a1 a2 a3) (abacuslaw15_wrong.f (k + 1) a0 a1 a2 a3) := by
  intro a0 a1 a2 a3 k; obtain ⟨ih0, ih1⟩ := abacuslaw15_wrong.mono_l k; unfold abacuslaw15_wrong.f; repeat' first
      | (with_reducible exact ih0 _ _ _ _)
      | (with_reducible exact ih1 _ _ _ _ _)
      | (with_reducible exact LeO.refl _)
      | (with_reducible exact LeO.none _)
      | (with_reducible refine LeO.ite ?_ ?_)
      | (with_reducible refine LeO.bind ?_ (fun _ => ?_))
      | exact ih0 _ _ _ _
      | exact ih1 _ _ _ _ _
      | exact LeO.none _
      | refine LeO.ite ?_ ?_
      | refine LeO.bind ?_ (fun _ => ?_)
theorem ph_abacuslaw15_wrong {P : Prop} (h : P := by subst h; go_enter Tryz.func15, Tryz.ntmps15; go_wp2; go_ret; first | done | exact ⟨rfl, fin _⟩) : P := h
set_option maxHeartbeats 8000000 in
set_option maxRecDepth 100000 in
theorem abacuslaw15_wrong.calls (k : Nat) (a0_0 : Int) (a0_1 : Int) (a0_2 : Int) (a0_3 : Int) (r : Int) (w : World) (h : abacuslaw15_wrong.f k a0_0 a0_1 a0_2 a0_3 = some r) (HG : Aside0 (GW w) := by first | (with_reducible exact HG) | exact ⟨GW.below HG.out (by repeat (first | (with_reducible first | exact HB.out | apply below_alloc | apply pw_below_drewN | apply below_drew1) | (with_reducible refine below_set ?_ (Aside0.out (by assumption))) | exact HB.out | exact Below.refl _ _))⟩ | exact ⟨GW.drewN HG.out _⟩ | exact ⟨GW.drew HG.out⟩ | exact ⟨GW.drewN (GW.drewN HG.out _) _⟩ | exact ⟨GW.drewN (GW.drew HG.out) _⟩) :
    Calls Tryz.prog 15 #[.agg #[.int .u8 a0_0, .int .i64 a0_1, .int .i64 a0_2, .int .i64 a0_3]] w fun e w' => e = .returned (.int .i64 r) ∧ Below w.heap.size w w' := by
  have hu := Tryz.underlying23
  have fin : ∀ o, Below w.heap.size w (w.alloc o) := fun o => (Below.refl _ w).alloc (Nat.le_refl _) o
  by_cases hv : a0_0 = 101 ∨ a0_0 = 69 ∨ a0_0 = 102 ∨ a0_0 = 70 ∨ a0_0 = 103 ∨ a0_0 = 71
  · rcases k with _ | _ | k
    · rcases hv with rfl | rfl | rfl | rfl | rfl | rfl <;> (simp [abacuslaw15_wrong.f, abacuslaw15_wrong.j0, abacuslaw15_wrong.j1] at h)
    · rcases hv with rfl | rfl | rfl | rfl | rfl | rfl <;> (exfalso; revert h; simp [abacuslaw15_wrong.f, abacuslaw15_wrong.j0, abacuslaw15_wrong.j1])
    rcases hv with rfl | rfl | rfl | rfl | rfl | rfl
    all_goals
      by_cases a1 : a0_1 < 0
      · have b := decide_eq_true a1; simp [abacuslaw15_wrong.f, abacuslaw15_wrong.j0, abacuslaw15_wrong.j1, *] at h; exact ph_abacuslaw15_wrong
      have b1 := decide_eq_false a1
      by_cases a2 : 31 < a0_1
      · have b := decide_eq_true a2; simp [abacuslaw15_wrong.f, abacuslaw15_wrong.j0, abacuslaw15_wrong.j1, *] at h; exact ph_abacuslaw15_wrong
      have b2 := decide_eq_false a2
      by_cases a3 : a0_2 < 0
      · have b := decide_eq_true a3; simp [abacuslaw15_wrong.f, abacuslaw15_wrong.j0, abacuslaw15_wrong.j1, *] at h; exact ph_abacuslaw15_wrong
      have b3 := decide_eq_false a3
      by_cases a4 : a0_3 < -1
      · have b := decide_eq_true a4; simp [abacuslaw15_wrong.f, abacuslaw15_wrong.j0, abacuslaw15_wrong.j1, *] at h; exact ph_abacuslaw15_wrong
      have b4 := decide_eq_false a4
      by_cases a5 : 4096 < a0_2
      · have b := decide_eq_true a5; simp [abacuslaw15_wrong.f, abacuslaw15_wrong.j0, abacuslaw15_wrong.j1, *] at h; exact ph_abacuslaw15_wrong
      have b5 := decide_eq_false a5
      by_cases a6 : 4096 < a0_3
      · have b := decide_eq_true a6; simp [abacuslaw15_wrong.f, abacuslaw15_wrong.j0, abacuslaw15_wrong.j1, *] at h; exact ph_abacuslaw15_wrong
      have b6 := decide_eq_false a6
      simp [abacuslaw15_wrong.f, abacuslaw15_wrong.j0, abacuslaw15_wrong.j1, *] at h; exact ph_abacuslaw15_wrong
  have g : ∀ x : Int, (x = 101 ∨ x = 69 ∨ x = 102 ∨ x = 70 ∨ x = 103 ∨ x = 71) → (a0_0 == x) = false := fun x hx => beq_eq_false_iff_ne.2 (fun e => hv (e ▸ hx))
  have g1 := g 101 (by simp); have g2 := g 69 (by simp); have g3 := g 102 (by simp); have g4 := g 70 (by simp); have g5 := g 103 (by simp); have g6 := g 71 (by simp)
  have n1 := beq_eq_false_iff_ne.1 g1; have n2 := beq_eq_false_iff_ne.1 g2; have n3 := beq_eq_false_iff_ne.1 g3; have n4 := beq_eq_false_iff_ne.1 g4; have n5 := beq_eq_false_iff_ne.1 g5; have n6 := beq_eq_false_iff_ne.1 g6
  simp only [abacuslaw15_wrong.f, if_neg n1, if_neg n2, if_neg n3, if_neg n4, if_neg n5, if_neg n6] at h
  have h := Option.some.inj h; clear g hv n1 n2 n3 n4 n5 n6; exact ph_abacuslaw15_wrong

/-! ### abacuslaw15_finite: function 16 -/
def abacuslaw15_finite.f (a0 : Int) : Option (Bool) := some (decide ((Int.tmod a0 9223372036854775808) < 9218868437227405312))
set_option maxHeartbeats 8000000 in
set_option maxRecDepth 100000 in
theorem abacuslaw15_finite.calls (a0 : Int) (r : Bool) (w : World) (h : abacuslaw15_finite.f a0 = some r) (HG : Aside0 (GW w) := by exact pz5) :
    Calls Tryz.prog 16 #[.int .u64 a0] w fun e w' => e = .returned (.bool r) ∧ Drawn0 w w' := by
  have H : (some (decide ((Int.tmod a0 9223372036854775808) < 9218868437227405312))) = some r := h; clear h; obtain rfl := Option.some.inj H; go_enter Tryz.func16, Tryz.ntmps16; go_wp2; go_ret; exact ⟨by first | rfl | (simp; done) | (simp [*]; done), by repeat (first | exact Drawn0.refl _ | apply Drawn0.step)⟩

end Go.Proofs.YtgbjojokjekmhaaGreatDoor.PXC
