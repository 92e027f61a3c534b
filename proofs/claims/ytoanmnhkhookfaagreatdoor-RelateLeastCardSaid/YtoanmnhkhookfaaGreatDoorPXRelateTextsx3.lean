/- The machine's side of a law, printed by a program of this session out of the translation; conditions: none. -/
import Derived.Test.YtoanmnhkhookfaaGreatDoorPXRelateTextsx0
import Derived.Test.YtoanmnhkhookfaaGreatDoorPXRelateTextsx1
import Derived.Test.YtoanmnhkhookfaaGreatDoorPXRelateTextsx2
namespace Go.Proofs.YtoanmnhkhookfaaGreatDoor.PXRelateTexts
open Go.Proofs.YtoanmnhkhookfaaGreatDoor
open Go.RowKit Go.Proofs.YtoanmnhkhookfaaGreatDoorW.PrintWords Go.Proofs.YtoanmnhkhookfaaGreatDoorW.PrintLast Go.Proofs.YtoanmnhkhookfaaGreatDoorW.PrintMore
attribute [local go_sem] max2_int min2_int max_two min_two max_three min_three max_four min_four   -- for this text's walks alone
set_option linter.unusedVariables false
set_option linter.unusedSimpArgs false

theorem phTextsx3_1 {P : Prop} (h : P := by repeat (first | (with_reducible first | exact HB.out | apply below_alloc | apply pw_below_drewN | apply below_drew1) | exact HB.out)) : P := h
theorem phTextsx3_2 {P : Prop} (h : P := by first | (with_reducible assumption) | assumption) : P := h
theorem phTextsx3_3 {P : Prop} (h : P := by (try simp only [List.map_toArray, List.map_cons, List.map_nil]); first | done | rfl | (simp only [List.length_drop, List.length_take]; rfl)) : P := h
theorem phTextsx3_4 {P : Prop} (h : P := by repeat (first | (with_reducible first | exact HB.out | apply below_alloc | apply pw_below_drewN | apply below_drew1 | refine below_set ?_ GE158.out) | exact HB.out)) : P := h
theorem phTextsx3_5 {P : Prop} (h : P := by first | rfl | (simp; done) | (simp [*]; done)) : P := h
theorem phTextsx3_6 {P : Prop} (h : P := by first | rfl | (simp [errW_none, errW_some] <;> rfl) | (simp only [append_nothing]; done) | (simp only [append_nothing]; rfl) | (simp [*, errW_none, errW_some] <;> rfl)) : P := h
theorem phTextsx3_7 {P : Prop} (h : P := by first | (with_reducible exact HG) | exact ⟨GW.below HG.out (by repeat (first | (with_reducible first | exact HB.out | apply below_alloc | apply pw_below_drewN | apply below_drew1) | (with_reducible refine below_set ?_ (Aside0.out (by assumption))) | exact HB.out | exact Below.refl _ _))⟩ | exact ⟨GW.drewN HG.out _⟩ | exact ⟨GW.drew HG.out⟩ | exact ⟨GW.drewN (GW.drewN HG.out _) _⟩ | exact ⟨GW.drewN (GW.drew HG.out) _⟩) : P := h
theorem phTextsx3_8 {P : Prop} (h : P := by repeat (first | (with_reducible first | exact HB.out | apply below_alloc | apply pw_below_drewN | apply below_drew1) | (with_reducible refine below_set ?_ (Aside0.out (by assumption))) | exact HB.out | exact Below.refl _ _)) : P := h
theorem phTextsx3_9 {P : Prop} (h : P := by (with_reducible repeat (first | apply Kd.R_alloc | apply Kd.R_drewN | apply Kd.R_drew)); exact HO161.out) : P := h
theorem phTextsx3_10 {P : Prop} (h : P := by (with_reducible repeat (first | refine blk_drewN ?_ _ | refine blk_drew ?_ | refine blk_alloc ?_ _)); exact BK158.out) : P := h
theorem phTextsx3_11 {P : Prop} (h : P := by (try simp only [hl10_2]); (with_reducible repeat (first | apply Kd.R_alloc | apply Kd.R_drewN | apply Kd.R_drew)); exact HO_10.out) : P := h
theorem phTextsx3_12 {P : Prop} (h : P := by (with_reducible repeat (first | refine blk_drewN ?_ _ | refine blk_drew ?_ | refine blk_alloc ?_ _)); refine blk_put (cs := #[.bool t154, .int .i64 t155, .int .u64 t156, .int .i64 0]) ?_ 3 _ (by first | rfl | (simp; done)); (with_reducible repeat (first | refine blk_drewN ?_ _ | refine blk_drew ?_ | refine blk_alloc ?_ _)); refine blk_put (cs := #[.bool t154, .int .i64 t155, .int .u64 0, .int .i64 0]) ?_ 2 _ (by first | rfl | (simp; done)); (with_reducible repeat (first | refine blk_drewN ?_ _ | refine blk_drew ?_ | refine blk_alloc ?_ _)); refine blk_put (cs := #[.bool t154, .int .i64 0, .int .u64 0, .int .i64 0]) ?_ 1 _ (by first | rfl | (simp; done)); (with_reducible repeat (first | refine blk_drewN ?_ _ | refine blk_drew ?_ | refine blk_alloc ?_ _)); refine blk_put (cs := #[.bool false, .int .i64 0, .int .u64 0, .int .i64 0]) ?_ 0 _ (by first | rfl | (simp; done)); (with_reducible repeat (first | refine blk_drewN ?_ _ | refine blk_drew ?_ | refine blk_alloc ?_ _)); exact BK158.out) : P := h
/-! ### nat_Shr: function 171 -/
mutual
def nat_Shr.j0 : Nat → List Int → Int → Bool → Option (List Int × Bool × Int)
  | 0, _, _, _ => none
  | k + 1, x0, x1, x7 => (nat_size.f k x0).bind fun t140 => (if 0 ≤ t140 then (if t140 ≤ (x0.length : Int) then (if x1 ≥ (wrap64 (64 * ((x0.take (t140 : Int).toNat).length : Int))) then (some (([] : List Int), x7, 0)) else (if 0 ≤ (wrap64 (((x0.take (t140 : Int).toNat).length : Int) - (wrap64 (Int.tdiv x1 64)))) then (if (wrap64 (((x0.take (t140 : Int).toNat).length : Int) - (wrap64 (Int.tdiv x1 64))) : Int).toNat ≤ 35184372088832 then ((some (List.replicate (wrap64 (((x0.take (t140 : Int).toNat).length : Int) - (wrap64 (Int.tdiv x1 64))) : Int).toNat 0 : List Int)).bind fun y142 => (nat_Shr.l0 k (x0.take (t140 : Int).toNat) x7 (wrap64 (Int.tdiv x1 64)) (IntKind.u64.wrap (Int.tmod x1 64)) y142 (y142.length : Int) 0)) else (none)) else (none))) else (none)) else (none))
def nat_Shr.l0 : Nat → List Int → Bool → Int → Int → List Int → Int → Int → Option (List Int × Bool × Int)
  | 0, _, _, _, _, _, _, _ => none
  | k + 1, x0, x7, x8, x9, x10, x49, x50 => if x50 < x49 then (if 0 ≤ (wrap64 (x8 + x50)) then (if (wrap64 (x8 + x50)) < (x0.length : Int) then (if 0 ≤ x9 then (if (wrap64 ((wrap64 (x8 + x50)) + 1)) < (x0.length : Int) then (if x9 > 0 then (if 0 ≤ (wrap64 ((wrap64 (x8 + x50)) + 1)) then (if 0 ≤ (IntKind.u64.wrap (64 - x9)) then (if 0 ≤ x50 then (if x50 < (x10.length : Int) then (nat_Shr.l0 k x0 x7 x8 x9 (x10.set (x50 : Int).toNat (Go.bits .or .u64 (shr .u64 (rd x0 (wrap64 (x8 + x50))) x9) (shl .u64 (rd x0 (wrap64 ((wrap64 (x8 + x50)) + 1))) (IntKind.u64.wrap (64 - x9))))) x49 (wrap64 (x50 + 1))) else (none)) else (none)) else (none)) else (none)) else (if 0 ≤ x50 then (if x50 < (x10.length : Int) then (nat_Shr.l0 k x0 x7 x8 x9 (x10.set (x50 : Int).toNat (shr .u64 (rd x0 (wrap64 (x8 + x50))) x9)) x49 (wrap64 (x50 + 1))) else (none)) else (none))) else (if 0 ≤ x50 then (if x50 < (x10.length : Int) then (nat_Shr.l0 k x0 x7 x8 x9 (x10.set (x50 : Int).toNat (shr .u64 (rd x0 (wrap64 (x8 + x50))) x9)) x49 (wrap64 (x50 + 1))) else (none)) else (none))) else (none)) else (none)) else (none)) else ((nat_cut.f k x10).bind fun bt150 => (some (bt150.1, x7, bt150.2)))
end
def nat_Shr.f (k : Nat) (l0 : List Int) (a1 : Int) : Option (List Int × Bool × Int) := (nat_big.f k l0).bind fun t137 => (if t137 = true then (some (([] : List Int), false, 2)) else (if a1 < 0 then (some (([] : List Int), false, 1)) else ((nat_size.f k l0).bind fun t138 => (if t138 > 0 then ((nat_Trail.f k l0).bind fun t139 => (nat_Shr.j0 k l0 a1 (decide (t139 < a1)))) else (nat_Shr.j0 k l0 a1 false)))))
theorem nat_Shr.mono_l : ∀ k, (∀ y0 y1 y2, LeO (nat_Shr.j0 k y0 y1 y2) (nat_Shr.j0 (k + 1) y0 y1 y2)) ∧ (∀ y0 y1 y2 y3 y4 y5 y6, LeO (nat_Shr.l0 k y0 y1 y2 y3 y4 y5 y6) (nat_Shr.l0 (k + 1) y0 y1 y2 y3 y4 y5 y6))
  | 0 => ⟨fun _ _ _ r h => by simp [nat_Shr.j0] at h, fun _ _ _ _ _ _ _ r h => by simp [nat_Shr.l0] at h⟩
  | k + 1 => by
    obtain ⟨ih0, ih1⟩ := nat_Shr.mono_l k
    refine ⟨?_, ?_⟩
    · intro y0 y1 y2
      unfold nat_Shr.j0
      repeat' first
      | (with_reducible exact ih0 _ _ _)
      | (with_reducible exact ih1 _ _ _ _ _ _ _)
      | (with_reducible exact nat_Trail.mono _ _)
      | (with_reducible exact nat_big.mono _ _)
      | (with_reducible exact nat_cut.mono _ _)
      | (with_reducible exact nat_size.mono _ _)
      | (with_reducible exact LeO.refl _)
      | (with_reducible exact LeO.none _)
      | (with_reducible refine LeO.ite ?_ ?_)
      | (with_reducible refine LeO.bind ?_ (fun _ => ?_))
      | exact ih0 _ _ _
      | exact ih1 _ _ _ _ _ _ _
      | exact nat_Trail.mono _ _
      | exact nat_big.mono _ _
      | exact nat_cut.mono _ _
      | exact nat_size.mono _ _
      | exact LeO.none _
      | refine LeO.ite ?_ ?_
      | refine LeO.bind ?_ (fun _ => ?_)
    · intro y0 y1 y2 y3 y4 y5 y6
      unfold nat_Shr.l0
      repeat' first
      | (with_reducible exact ih0 _ _ _)
      | (with_reducible exact ih1 _ _ _ _ _ _ _)
      | (with_reducible exact nat_Trail.mono _ _)
      | (with_reducible exact nat_big.mono _ _)
      | (with_reducible exact nat_cut.mono _ _)
      | (with_reducible exact nat_size.mono _ _)
      | (with_reducible exact LeO.refl _)
      | (with_reducible exact LeO.none _)
      | (with_reducible refine LeO.ite ?_ ?_)
      | (with_reducible refine LeO.bind ?_ (fun _ => ?_))
      | exact ih0 _ _ _
      | exact ih1 _ _ _ _ _ _ _
      | exact nat_Trail.mono _ _
      | exact nat_big.mono _ _
      | exact nat_cut.mono _ _
      | exact nat_size.mono _ _
      | exact LeO.none _
      | refine LeO.ite ?_ ?_
      | refine LeO.bind ?_ (fun _ => ?_)
theorem nat_Shr.mono : ∀ a0 a1 k, LeO (nat_Shr.f k a0 a1) (nat_Shr.f (k + 1) a0 a1) := by
  intro a0 a1 k
  obtain ⟨ih0, ih1⟩ := nat_Shr.mono_l k
  unfold nat_Shr.f
  repeat' first
      | (with_reducible exact ih0 _ _ _)
      | (with_reducible exact ih1 _ _ _ _ _ _ _)
      | (with_reducible exact nat_Trail.mono _ _)
      | (with_reducible exact nat_big.mono _ _)
      | (with_reducible exact nat_cut.mono _ _)
      | (with_reducible exact nat_size.mono _ _)
      | (with_reducible exact LeO.refl _)
      | (with_reducible exact LeO.none _)
      | (with_reducible refine LeO.ite ?_ ?_)
      | (with_reducible refine LeO.bind ?_ (fun _ => ?_))
      | exact ih0 _ _ _
      | exact ih1 _ _ _ _ _ _ _
      | exact nat_Trail.mono _ _
      | exact nat_big.mono _ _
      | exact nat_cut.mono _ _
      | exact nat_size.mono _ _
      | exact LeO.none _
      | refine LeO.ite ?_ ?_
      | refine LeO.bind ?_ (fun _ => ?_)
theorem nat_Shr.w1 {P : Prop} (h : P := by
  go_enter Tryz.func171, Tryz.ntmps171
  go_wp2_with (first | ((with_reducible refine gate_callee (f := 199) rfl ?_); refine goesL_ (some 16) rfl rfl Tryz.func199 (by kernel_rfl) rfl #[.slice A0 l0.length c0] rfl (by exact phTextsx3_3) ?_; (with_reducible refine (nat_big.calls k _ _ l0 true _ ?side1 ?side2 A3.out).mono ?_); (case side1 => repeat (first | exact HR0.out | (with_reducible refine Kd.C_alloc ?_ _) | (with_reducible refine Kd.C_drewN ?_ _) | (with_reducible refine Kd.C_drew ?_))); (case side2 => exact HC0.out); rintro e w' ⟨rfl, ⟨nd, rfl⟩⟩; refine ⟨_, rfl, ?_⟩) | ((with_reducible refine gate_callee (f := 199) rfl ?_); refine goesL_ (some 16) rfl rfl Tryz.func199 (by kernel_rfl) rfl #[.slice A0 l0.length c0] rfl (by exact phTextsx3_3) ?_; (with_reducible refine (nat_big.calls k _ _ l0 false _ ?side1 ?side2 A3.out).mono ?_); (case side1 => repeat (first | exact HR0.out | (with_reducible refine Kd.C_alloc ?_ _) | (with_reducible refine Kd.C_drewN ?_ _) | (with_reducible refine Kd.C_drew ?_))); (case side2 => exact HC0.out); rintro e w' ⟨rfl, ⟨nd, rfl⟩⟩; refine ⟨_, rfl, ?_⟩))
  go_ret3
  exact ⟨_, by exact phTextsx3_6, Kd.V_nil _ _ _ _ _, by exact phTextsx3_1⟩) : P := h
set_option maxHeartbeats 8000000 in
set_option maxRecDepth 100000 in
theorem nat_Shr.calls (k : Nat) (A0 : Option Addr) (c0 : Nat) (l0 : List Int) (a1 : Int) (r1 : List Int) (r2 : Bool) (r3 : Int) (w : World) (hr0 : Kd.C (Kd.int .u64) w A0 l0.length l0) (hc0 : l0.length ≤ c0) (h : nat_Shr.f k l0 a1 = some (r1, r2, r3)) (HG : Aside0 (GW w) := by exact phTextsx3_7) :
    Calls Tryz.prog 171 #[.slice A0 l0.length c0, .int .i64 a1] w fun e w' => ∃ v0_ : Value, e = .returned (.tuple #[v0_, .bool r2, .int .i64 r3]) ∧ Kd.V (Kd.int .u64) 22 w' w.heap.size (fun k_ => (w.heap.size ≤ k_)) v0_ r1 ∧ Below w.heap.size w w' := by
  have HR0 := Aside0.mk hr0
  have HC0 := Aside0.mk hc0
  clear hr0 hc0
  have HB := Aside0.mk (Below.refl w.heap.size w)
  have H : ((nat_big.f k l0).bind fun t137 => (if t137 = true then (some (([] : List Int), false, 2)) else (if a1 < 0 then (some (([] : List Int), false, 1)) else ((nat_size.f k l0).bind fun t138 => (if t138 > 0 then ((nat_Trail.f k l0).bind fun t139 => (nat_Shr.j0 k l0 a1 (decide (t139 < a1)))) else (nat_Shr.j0 k l0 a1 false)))))) = some (r1, r2, r3) := h
  clear h
  replace H := Option.bind_eq_some_iff.mp H
  obtain ⟨t137, A30, H⟩ := H
  try dsimp only at H
  have A3 := Aside0.mk A30
  clear A30
  by_cases c4 : t137 = true
  · subst c4
    have H1 : (some (([] : List Int), false, 2)) = some (r1, r2, r3) := by rw [if_pos rfl] at H; exact H
    clear H
    have H := H1
    clear H1
    simp only [Option.some.injEq, Prod.mk.injEq] at H
    obtain ⟨rfl, rfl, rfl⟩ := H
    exact nat_Shr.w1
  · replace c4 := Bool.eq_false_iff.mpr c4
    subst c4
    have H1 : (if a1 < 0 then (some (([] : List Int), false, 1)) else ((nat_size.f k l0).bind fun t138 => (if t138 > 0 then ((nat_Trail.f k l0).bind fun t139 => (nat_Shr.j0 k l0 a1 (decide (t139 < a1)))) else (nat_Shr.j0 k l0 a1 false)))) = some (r1, r2, r3) := by rw [if_neg (show ¬ (false = true) by decide)] at H; exact H
    clear H
    have H := H1
    clear H1
    by_cases c5 : a1 < 0
    · rw [if_pos c5] at H
      have c5b0 : decide (a1 < 0) = true := decide_eq_true c5
      clear c5
      simp only [Option.some.injEq, Prod.mk.injEq] at H
      obtain ⟨rfl, rfl, rfl⟩ := H
      exact nat_Shr.w1
    · rw [if_neg c5] at H
      have c5b0 : decide (a1 < 0) = false := decide_eq_false c5
      clear c5
      have HC6 := Aside0.mk H
      clear H
      go_enter Tryz.func171, Tryz.ntmps171
      go_upto_region 5 with (first | ((with_reducible refine gate_callee (f := 199) rfl ?_); refine goesL_ (some 16) rfl rfl Tryz.func199 (by kernel_rfl) rfl #[.slice A0 l0.length c0] rfl (by exact phTextsx3_3) ?_; (with_reducible refine (nat_big.calls k _ _ l0 false _ ?side1 ?side2 A3.out).mono ?_); (case side1 => repeat (first | exact HR0.out | (with_reducible refine Kd.C_alloc ?_ _) | (with_reducible refine Kd.C_drewN ?_ _) | (with_reducible refine Kd.C_drew ?_))); (case side2 => exact HC0.out); rintro e w' ⟨rfl, ⟨nd, rfl⟩⟩; refine ⟨_, rfl, ?_⟩))
      (try simp only [Act.put, List.setIfInBounds_toArray, List.set_cons_zero, List.set_cons_succ])
      go_cut [7] (fun v7 wc => ∃ (kq : Nat) (x7_5 : Bool), v7 = .bool x7_5 ∧ Aside0 (nat_Shr.j0 kq l0 a1 x7_5 = some (r1, r2, r3)) ∧ Aside0 (kq ≤ k) ∧ Aside0 (Below w.heap.size w wc))
      case first =>
        have H := HC6.out
        clear HC6
        replace H := Option.bind_eq_some_iff.mp H
        obtain ⟨t138, A70, H⟩ := H
        try dsimp only at H
        have A7 := Aside0.mk A70
        clear A70
        by_cases c8 : t138 > 0
        · rw [if_pos c8] at H
          have c8b0 : decide (0 < t138) = true := decide_eq_true c8
          clear c8
          (first | rw [c8b0] | (simp only [i64_w, i32_w]; rw [c8b0]) | skip)
          replace H := Option.bind_eq_some_iff.mp H
          obtain ⟨t139, A90, H⟩ := H
          try dsimp only at H
          have A9 := Aside0.mk A90
          clear A90
          have H' := Aside0.mk H
          clear H
          go_wp2_with (first | ((with_reducible refine gate_callee (f := 172) rfl ?_); refine goesL_ (some 20) rfl rfl Tryz.func172 (by kernel_rfl) rfl #[.slice A0 l0.length c0] rfl (by exact phTextsx3_3) ?_; (with_reducible refine (nat_size.calls k _ _ l0 t138 _ ?side1 ?side2 A7.out).mono ?_); (case side1 => repeat (first | exact (Kd.C_below HR0.out HB.out) | (with_reducible refine Kd.C_alloc ?_ _) | (with_reducible refine Kd.C_drewN ?_ _) | (with_reducible refine Kd.C_drew ?_))); (case side2 => exact HC0.out); rintro e w' ⟨rfl, ⟨nd, rfl⟩⟩; refine ⟨_, rfl, ?_⟩) | (go_at_call 187; (with_reducible refine (nat_Trail.calls k _ _ l0 t139 _ ?side1 ?side2 A9.out).mono ?_); (case side1 => repeat (first | exact (Kd.C_below HR0.out (by exact phTextsx3_1)) | (with_reducible refine Kd.C_alloc ?_ _) | (with_reducible refine Kd.C_drewN ?_ _) | (with_reducible refine Kd.C_drew ?_))); (case side2 => exact HC0.out); rintro e w' ⟨rfl, ⟨nd, rfl⟩⟩))
          go_meet
          case rel => exact ⟨_, (decide (t139 < a1)), (by exact phTextsx3_5), H', ⟨by first | omega | exact Nat.le_refl _⟩, ⟨by exact phTextsx3_1⟩⟩
        · rw [if_neg c8] at H
          have c8b0 : decide (0 < t138) = false := decide_eq_false c8
          clear c8
          (first | rw [c8b0] | (simp only [i64_w, i32_w]; rw [c8b0]) | skip)
          have H' := Aside0.mk H
          clear H
          go_wp2_with (first | ((with_reducible refine gate_callee (f := 172) rfl ?_); refine goesL_ (some 20) rfl rfl Tryz.func172 (by kernel_rfl) rfl #[.slice A0 l0.length c0] rfl (by exact phTextsx3_3) ?_; (with_reducible refine (nat_size.calls k _ _ l0 t138 _ ?side1 ?side2 A7.out).mono ?_); (case side1 => repeat (first | exact (Kd.C_below HR0.out HB.out) | (with_reducible refine Kd.C_alloc ?_ _) | (with_reducible refine Kd.C_drewN ?_ _) | (with_reducible refine Kd.C_drew ?_))); (case side2 => exact HC0.out); rintro e w' ⟨rfl, ⟨nd, rfl⟩⟩; refine ⟨_, rfl, ?_⟩))
          go_meet
          case rel => exact ⟨_, (false), (by exact phTextsx3_5), H', ⟨by first | omega | exact Nat.le_refl _⟩, ⟨by exact phTextsx3_1⟩⟩
      case rest =>
        clear HC6
        try clear c1
        try clear p2
        try clear c4
        try clear c5
        try clear c5b0
        try clear c8
        try clear c8b0
        obtain ⟨kq, x7_5, rfl, HA, HJ5, HB⟩ := hcut
        cases kq with
        | zero => exact absurd HA.out (by simp [nat_Shr.j0])
        | succ kj5 =>
          have H := HA.out
          clear HA
          simp only [nat_Shr.j0] at H
          replace H := Option.bind_eq_some_iff.mp H
          obtain ⟨t140, A100, H⟩ := H
          try dsimp only at H
          have A10 := Aside0.mk A100
          clear A100
          by_cases c11 : 0 ≤ t140
          · rw [if_pos c11] at H
            have c11b0 := eq_true c11
            have c11b1 : decide (0 ≤ t140) = true := decide_eq_true c11
            clear c11
            by_cases c12 : t140 ≤ (l0.length : Int)
            · rw [if_pos c12] at H
              have c12b0 := eq_true c12
              have c12b1 : decide (t140 ≤ (l0.length : Int)) = true := decide_eq_true c12
              clear c12
              obtain ⟨L_t140, hL_t140⟩ : ∃ L_, l0.take (t140 : Int).toNat = L_ := ⟨_, rfl⟩
              rw [hL_t140] at H
              by_cases c13 : a1 ≥ (wrap64 (64 * (L_t140.length : Int)))
              · rw [if_pos c13] at H
                have c13b0 : decide ((wrap64 (64 * (L_t140.length : Int))) ≤ a1) = true := decide_eq_true c13
                clear c13
                simp only [Option.some.injEq, Prod.mk.injEq] at H
                obtain ⟨rfl, rfl, rfl⟩ := H
                go_wp2_with (first | ((with_reducible refine gate_callee (f := 172) rfl ?_); refine goesL_ (some 30) rfl rfl Tryz.func172 (by kernel_rfl) rfl #[.slice A0 l0.length c0] rfl (by exact phTextsx3_3) ?_; (with_reducible refine (nat_size.calls kj5 _ _ l0 t140 _ ?side1 ?side2 A10.out).mono ?_); (case side1 => repeat (first | exact (Kd.C_below HR0.out HB.out) | (with_reducible refine Kd.C_alloc ?_ _) | (with_reducible refine Kd.C_drewN ?_ _) | (with_reducible refine Kd.C_drew ?_))); (case side2 => exact HC0.out); rintro e w' ⟨rfl, ⟨nd, rfl⟩⟩; refine ⟨_, rfl, ?_⟩; obtain ⟨i014, hi014, _, hsz14, _⟩ := info_parts info22; obtain ⟨hcut14, hA14, hC14⟩ := print_take_of (P := Tryz.prog) (Value.int .u64) 0 218 22 .i64 Tryz.underlying218 hi014 hsz14 A0 c0 l0 t140 (of_decide_eq_true (by exact phTextsx3_2)) (of_decide_eq_true (by exact phTextsx3_2)) HC0.out; rw [hL_t140] at hcut14 hA14 hC14; have HR141 := Aside0.mk (Kd.C_of_reads (h1 := fun _ => rfl) (hA14 _ (Kd.reads_of_C HR0.out))); have HC141 := Aside0.mk hC14; clear hA14 hC14 hi014 hsz14))
                go_ret3
                exact ⟨_, by exact phTextsx3_6, Kd.V_nil _ _ _ _ _, by exact phTextsx3_1⟩
              · rw [if_neg c13] at H
                have c13b0 : decide ((wrap64 (64 * (L_t140.length : Int))) ≤ a1) = false := decide_eq_false c13
                clear c13
                obtain ⟨ji15, hji15⟩ : ∃ j_ : Int, (wrap64 ((L_t140.length : Int) - (wrap64 (Int.tdiv a1 64)))) = j_ := ⟨_, rfl⟩
                replace H : (if 0 ≤ (ji15) then (if (ji15 : Int).toNat ≤ 35184372088832 then ((some (List.replicate (ji15 : Int).toNat 0 : List Int)).bind fun y142 => (nat_Shr.l0 kj5 L_t140 x7_5 (wrap64 (Int.tdiv a1 64)) (IntKind.u64.wrap (Int.tmod a1 64)) y142 (y142.length : Int) 0)) else (none)) else (none)) = some (r1, r2, r3) := by first | (rw [hji15] at H; exact H) | (simp only [hji15] at H ⊢; exact H)
                (try rw [hji15] at A10)
                have hji15w : (IntKind.i64.wrap ((L_t140.length : Int) - (wrap64 (Int.tdiv a1 64)))) = ji15 := (i64_w _).trans hji15
                by_cases c16 : 0 ≤ (ji15)
                · rw [if_pos c16] at H
                  have c16b0 := eq_true c16
                  have c16b1 : decide (0 ≤ (ji15)) = true := decide_eq_true c16
                  clear c16
                  by_cases c17 : (ji15 : Int).toNat ≤ 35184372088832
                  · rw [if_pos c17] at H
                    have c17b0 := eq_true c17
                    have c17b1 : decide ((ji15 : Int).toNat ≤ 35184372088832) = true := decide_eq_true c17
                    clear c17
                    obtain ⟨y142, hy142⟩ : ∃ y_ : List Int, y_ = (List.replicate (ji15 : Int).toNat 0) := ⟨_, rfl⟩
                    replace H : (nat_Shr.l0 kj5 L_t140 x7_5 (wrap64 (Int.tdiv a1 64)) (IntKind.u64.wrap (Int.tmod a1 64)) y142 (y142.length : Int) 0) = some (r1, r2, r3) := by first | (rw [hy142]; with_reducible exact H) | (have H2_ := (Option.bind_some _ _).symm.trans H; rw [hy142]; with_reducible exact H2_) | (have H2_ := (Option.bind_some _ _).symm.trans H; with_reducible exact H2_) | with_reducible exact H | (rw [hy142]; exact H) | exact H
                    have Ny142 := Aside0.mk hy142
                    clear hy142
                    have H' := Aside0.mk H
                    clear H
                    go_wp2_with (first | ((with_reducible refine gate_callee (f := 172) rfl ?_); refine goesL_ (some 30) rfl rfl Tryz.func172 (by kernel_rfl) rfl #[.slice A0 l0.length c0] rfl (by exact phTextsx3_3) ?_; (with_reducible refine (nat_size.calls kj5 _ _ l0 t140 _ ?side1 ?side2 A10.out).mono ?_); (case side1 => repeat (first | exact (Kd.C_below HR0.out HB.out) | (with_reducible refine Kd.C_alloc ?_ _) | (with_reducible refine Kd.C_drewN ?_ _) | (with_reducible refine Kd.C_drew ?_))); (case side2 => exact HC0.out); rintro e w' ⟨rfl, ⟨nd, rfl⟩⟩; refine ⟨_, rfl, ?_⟩; obtain ⟨i018, hi018, _, hsz18, _⟩ := info_parts info22; obtain ⟨hcut18, hA18, hC18⟩ := print_take_of (P := Tryz.prog) (Value.int .u64) 0 218 22 .i64 Tryz.underlying218 hi018 hsz18 A0 c0 l0 t140 (of_decide_eq_true (by exact phTextsx3_2)) (of_decide_eq_true (by exact phTextsx3_2)) HC0.out; rw [hL_t140] at hcut18 hA18 hC18; have HR141 := Aside0.mk (Kd.C_of_reads (h1 := fun _ => rfl) (hA18 _ (Kd.reads_of_C HR0.out))); have HC141 := Aside0.mk hC18; clear hA18 hC18 hi018 hsz18) | ((with_reducible refine gate_dst (N := 47) rfl ?_); refine Kd.R_make (Kd.int .u64) _ 22 rfl (N := 47) rfl 218 _ _ rfl ji15 rfl rfl Tryz.underlying218 (.int .u64 0) 8 info22 rfl (by decide) (by omega) 0 (ok := fun _ => True) (okp := fun _ => True) rfl (fun _ hk => hk) trivial (of_decide_eq_true (by exact phTextsx3_2)) (Nat.le_trans (Nat.mul_le_mul_right _ (of_decide_eq_true (by exact phTextsx3_2) : ji15.toNat ≤ 35184372088832)) (by omega)) (Below.refl _ _) (Nat.le_refl _) ?_; intro v143 w19 ho20 hb hg_ hnew_; clear hg_ hnew_; (first | rw [← Ny142.out] at ho20 | (simp only [Int.reduceToNat] at ho20; rw [← Ny142.out] at ho20)); have n0_ := Aside0.mk (Kd.R_lower (Kd.R_newM (M := fun k_ => (w.heap.size ≤ k_)) ho20 (below_size (by exact phTextsx3_1)) (fun k_ h_ => h_)) (below_size (by exact phTextsx3_1))); have n1_ := Aside0.mk (below_step (by exact phTextsx3_1) hb); clear HB; have HO144 := n0_; have HB := n1_; clear n0_ n1_; clear hb ho20; obtain ⟨Ao21, co21, eo21⟩ := Kd.R_slice HO144.out; subst eo21))
                    go_loopg [50] kj5 (fun kq v50 w' => ∃ (x10_2 : List Int) (x50_2 : Int), v50 = .int .i64 x50_2 ∧ Aside0 (nat_Shr.l0 kq L_t140 x7_5 (wrap64 (Int.tdiv a1 64)) (IntKind.u64.wrap (Int.tmod a1 64)) x10_2 (y142.length : Int) x50_2 = some (r1, r2, r3)) ∧ Aside0 (kq ≤ kj5) ∧ Aside0 (Kd.R (Kd.int .u64) 22 w' w.heap.size (fun k_ => (w.heap.size ≤ k_)) (.slice Ao21 y142.length co21) x10_2) ∧ Aside0 (Below w.heap.size w w'))
                    case atStart => exact ⟨(y142), (0), (by exact phTextsx3_5), H', ⟨Nat.le_refl _⟩, ⟨by (with_reducible repeat (first | apply Kd.R_alloc | apply Kd.R_drewN | apply Kd.R_drew)); exact Kd.R_mono HO144.out (fun _ hk => hk.1)⟩, ⟨by exact phTextsx3_1⟩⟩
                    case round =>
                      clear H'
                      try clear c1
                      try clear p2
                      try clear c4
                      try clear c5
                      try clear c5b0
                      try clear p6
                      try clear c8
                      try clear c8b0
                      try clear c11
                      try clear c11b0
                      try clear c11b1
                      try clear c12
                      try clear c12b0
                      try clear c12b1
                      try clear c13
                      try clear c13b0
                      try clear c16
                      try clear c16b0
                      try clear c16b1
                      try clear c17
                      try clear c17b0
                      try clear c17b1
                      try clear c19
                      try clear p2
                      obtain ⟨x10_2, x50_2, rfl, HA, HK2, HO_10, HB⟩ := hrel
                      have hl10_2 := (Kd.R_reads' HO_10.out).1
                      rw [hl10_2] at HO_10
                      (try simp only [hl10_2])
                      cases gk with
                      | zero => exact absurd HA.out (by simp [nat_Shr.l0])
                      | succ k2 =>
                        have H := HA.out
                        clear HA
                        simp only [nat_Shr.l0] at H
                        by_cases c22 : x50_2 < (y142.length : Int)
                        · rw [if_pos c22] at H
                          have c22b0 : decide (x50_2 < (y142.length : Int)) = true := decide_eq_true c22
                          clear c22
                          obtain ⟨ji23, hji23⟩ : ∃ j_ : Int, (wrap64 ((wrap64 (Int.tdiv a1 64)) + x50_2)) = j_ := ⟨_, rfl⟩
                          replace H : (if 0 ≤ (ji23) then (if (ji23) < (L_t140.length : Int) then (if 0 ≤ (IntKind.u64.wrap (Int.tmod a1 64)) then (if (wrap64 ((ji23) + 1)) < (L_t140.length : Int) then (if (IntKind.u64.wrap (Int.tmod a1 64)) > 0 then (if 0 ≤ (wrap64 ((ji23) + 1)) then (if 0 ≤ (IntKind.u64.wrap (64 - (IntKind.u64.wrap (Int.tmod a1 64)))) then (if 0 ≤ x50_2 then (if x50_2 < (x10_2.length : Int) then (nat_Shr.l0 k2 L_t140 x7_5 (wrap64 (Int.tdiv a1 64)) (IntKind.u64.wrap (Int.tmod a1 64)) (x10_2.set (x50_2 : Int).toNat (Go.bits .or .u64 (shr .u64 (rd L_t140 (ji23)) (IntKind.u64.wrap (Int.tmod a1 64))) (shl .u64 (rd L_t140 (wrap64 ((ji23) + 1))) (IntKind.u64.wrap (64 - (IntKind.u64.wrap (Int.tmod a1 64))))))) (y142.length : Int) (wrap64 (x50_2 + 1))) else (none)) else (none)) else (none)) else (none)) else (if 0 ≤ x50_2 then (if x50_2 < (x10_2.length : Int) then (nat_Shr.l0 k2 L_t140 x7_5 (wrap64 (Int.tdiv a1 64)) (IntKind.u64.wrap (Int.tmod a1 64)) (x10_2.set (x50_2 : Int).toNat (shr .u64 (rd L_t140 (ji23)) (IntKind.u64.wrap (Int.tmod a1 64)))) (y142.length : Int) (wrap64 (x50_2 + 1))) else (none)) else (none))) else (if 0 ≤ x50_2 then (if x50_2 < (x10_2.length : Int) then (nat_Shr.l0 k2 L_t140 x7_5 (wrap64 (Int.tdiv a1 64)) (IntKind.u64.wrap (Int.tmod a1 64)) (x10_2.set (x50_2 : Int).toNat (shr .u64 (rd L_t140 (ji23)) (IntKind.u64.wrap (Int.tmod a1 64)))) (y142.length : Int) (wrap64 (x50_2 + 1))) else (none)) else (none))) else (none)) else (none)) else (none)) = some (r1, r2, r3) := by first | (rw [hji23] at H; exact H) | (simp only [hji23] at H ⊢; exact H)
                          have hji23w : (IntKind.i64.wrap ((wrap64 (Int.tdiv a1 64)) + x50_2)) = ji23 := (i64_w _).trans hji23
                          by_cases c24 : 0 ≤ (ji23)
                          · rw [if_pos c24] at H
                            have c24b0 : decide (0 ≤ (ji23)) = true := decide_eq_true c24
                            clear c24
                            by_cases c25 : (ji23) < (L_t140.length : Int)
                            · rw [if_pos c25] at H
                              have c25b0 : decide ((ji23) < (L_t140.length : Int)) = true := decide_eq_true c25
                              clear c25
                              obtain ⟨ji26, hji26⟩ : ∃ j_ : Int, (IntKind.u64.wrap (Int.tmod a1 64)) = j_ := ⟨_, rfl⟩
                              replace H : (if 0 ≤ (ji26) then (if (wrap64 ((ji23) + 1)) < (L_t140.length : Int) then (if (ji26) > 0 then (if 0 ≤ (wrap64 ((ji23) + 1)) then (if 0 ≤ (IntKind.u64.wrap (64 - (ji26))) then (if 0 ≤ x50_2 then (if x50_2 < (x10_2.length : Int) then (nat_Shr.l0 k2 L_t140 x7_5 (wrap64 (Int.tdiv a1 64)) (ji26) (x10_2.set (x50_2 : Int).toNat (Go.bits .or .u64 (shr .u64 (rd L_t140 (ji23)) (ji26)) (shl .u64 (rd L_t140 (wrap64 ((ji23) + 1))) (IntKind.u64.wrap (64 - (ji26)))))) (y142.length : Int) (wrap64 (x50_2 + 1))) else (none)) else (none)) else (none)) else (none)) else (if 0 ≤ x50_2 then (if x50_2 < (x10_2.length : Int) then (nat_Shr.l0 k2 L_t140 x7_5 (wrap64 (Int.tdiv a1 64)) (ji26) (x10_2.set (x50_2 : Int).toNat (shr .u64 (rd L_t140 (ji23)) (ji26))) (y142.length : Int) (wrap64 (x50_2 + 1))) else (none)) else (none))) else (if 0 ≤ x50_2 then (if x50_2 < (x10_2.length : Int) then (nat_Shr.l0 k2 L_t140 x7_5 (wrap64 (Int.tdiv a1 64)) (ji26) (x10_2.set (x50_2 : Int).toNat (shr .u64 (rd L_t140 (ji23)) (ji26))) (y142.length : Int) (wrap64 (x50_2 + 1))) else (none)) else (none))) else (none)) = some (r1, r2, r3) := by first | (rw [hji26] at H; exact H) | (simp only [hji26] at H ⊢; exact H)
                              by_cases c27 : 0 ≤ (ji26)
                              · rw [if_pos c27] at H
                                have c27b0 := eq_true c27
                                have c27b1 : decide (0 ≤ (ji26)) = true := decide_eq_true c27
                                clear c27
                                obtain ⟨ji28, hji28⟩ : ∃ j_ : Int, (shr .u64 (rd L_t140 (ji23)) (ji26)) = j_ := ⟨_, rfl⟩
                                replace H : (if (wrap64 ((ji23) + 1)) < (L_t140.length : Int) then (if (ji26) > 0 then (if 0 ≤ (wrap64 ((ji23) + 1)) then (if 0 ≤ (IntKind.u64.wrap (64 - (ji26))) then (if 0 ≤ x50_2 then (if x50_2 < (x10_2.length : Int) then (nat_Shr.l0 k2 L_t140 x7_5 (wrap64 (Int.tdiv a1 64)) (ji26) (x10_2.set (x50_2 : Int).toNat (Go.bits .or .u64 (ji28) (shl .u64 (rd L_t140 (wrap64 ((ji23) + 1))) (IntKind.u64.wrap (64 - (ji26)))))) (y142.length : Int) (wrap64 (x50_2 + 1))) else (none)) else (none)) else (none)) else (none)) else (if 0 ≤ x50_2 then (if x50_2 < (x10_2.length : Int) then (nat_Shr.l0 k2 L_t140 x7_5 (wrap64 (Int.tdiv a1 64)) (ji26) (x10_2.set (x50_2 : Int).toNat (ji28)) (y142.length : Int) (wrap64 (x50_2 + 1))) else (none)) else (none))) else (if 0 ≤ x50_2 then (if x50_2 < (x10_2.length : Int) then (nat_Shr.l0 k2 L_t140 x7_5 (wrap64 (Int.tdiv a1 64)) (ji26) (x10_2.set (x50_2 : Int).toNat (ji28)) (y142.length : Int) (wrap64 (x50_2 + 1))) else (none)) else (none))) = some (r1, r2, r3) := by first | (rw [hji28] at H; exact H) | (simp only [hji28] at H ⊢; exact H)
                                have hji28_ : ((rd L_t140 (ji23)) / 2 ^ min (ji26).toNat 64) = ji28 := hji28
                                have hji28z : (ji26) ≤ 64 → ((rd L_t140 (ji23)) / 2 ^ (ji26).toNat) = ji28 := shr_small hji28
                                by_cases c29 : (wrap64 ((ji23) + 1)) < (L_t140.length : Int)
                                · rw [if_pos c29] at H
                                  have c29b0 : decide ((wrap64 ((ji23) + 1)) < (L_t140.length : Int)) = true := decide_eq_true c29
                                  clear c29
                                  by_cases c30 : (ji26) > 0
                                  · rw [if_pos c30] at H
                                    have c30b0 : decide (0 < (ji26)) = true := decide_eq_true c30
                                    clear c30
                                    obtain ⟨ji31, hji31⟩ : ∃ j_ : Int, (wrap64 ((ji23) + 1)) = j_ := ⟨_, rfl⟩
                                    replace H : (if 0 ≤ (ji31) then (if 0 ≤ (IntKind.u64.wrap (64 - (ji26))) then (if 0 ≤ x50_2 then (if x50_2 < (x10_2.length : Int) then (nat_Shr.l0 k2 L_t140 x7_5 (wrap64 (Int.tdiv a1 64)) (ji26) (x10_2.set (x50_2 : Int).toNat (Go.bits .or .u64 (ji28) (shl .u64 (rd L_t140 (ji31)) (IntKind.u64.wrap (64 - (ji26)))))) (y142.length : Int) (wrap64 (x50_2 + 1))) else (none)) else (none)) else (none)) else (none)) = some (r1, r2, r3) := by first | (rw [hji31] at H; exact H) | (simp only [hji31] at H ⊢; exact H)
                                    (try rw [hji31] at c29b0)
                                    have hji31w : (IntKind.i64.wrap ((ji23) + 1)) = ji31 := (i64_w _).trans hji31
                                    by_cases c32 : 0 ≤ (ji31)
                                    · rw [if_pos c32] at H
                                      have c32b0 : decide (0 ≤ (ji31)) = true := decide_eq_true c32
                                      clear c32
                                      obtain ⟨ji33, hji33⟩ : ∃ j_ : Int, (IntKind.u64.wrap (64 - (ji26))) = j_ := ⟨_, rfl⟩
                                      replace H : (if 0 ≤ (ji33) then (if 0 ≤ x50_2 then (if x50_2 < (x10_2.length : Int) then (nat_Shr.l0 k2 L_t140 x7_5 (wrap64 (Int.tdiv a1 64)) (ji26) (x10_2.set (x50_2 : Int).toNat (Go.bits .or .u64 (ji28) (shl .u64 (rd L_t140 (ji31)) (ji33)))) (y142.length : Int) (wrap64 (x50_2 + 1))) else (none)) else (none)) else (none)) = some (r1, r2, r3) := by first | (rw [hji33] at H; exact H) | (simp only [hji33] at H ⊢; exact H)
                                      by_cases c34 : 0 ≤ (ji33)
                                      · rw [if_pos c34] at H
                                        have c34b0 := eq_true c34
                                        have c34b1 : decide (0 ≤ (ji33)) = true := decide_eq_true c34
                                        clear c34
                                        obtain ⟨ji35, hji35⟩ : ∃ j_ : Int, (shl .u64 (rd L_t140 (ji31)) (ji33)) = j_ := ⟨_, rfl⟩
                                        replace H : (if 0 ≤ x50_2 then (if x50_2 < (x10_2.length : Int) then (nat_Shr.l0 k2 L_t140 x7_5 (wrap64 (Int.tdiv a1 64)) (ji26) (x10_2.set (x50_2 : Int).toNat (Go.bits .or .u64 (ji28) (ji35))) (y142.length : Int) (wrap64 (x50_2 + 1))) else (none)) else (none)) = some (r1, r2, r3) := by first | (rw [hji35] at H; exact H) | (simp only [hji35] at H ⊢; exact H)
                                        have hji35_ : (IntKind.u64.wrap ((rd L_t140 (ji31)) * 2 ^ min (ji33).toNat 64)) = ji35 := hji35
                                        have hji35z : (ji33) ≤ 64 → (IntKind.u64.wrap ((rd L_t140 (ji31)) * 2 ^ (ji33).toNat)) = ji35 := shl_small hji35
                                        by_cases c36 : 0 ≤ x50_2
                                        · rw [if_pos c36] at H
                                          have c36b0 : decide (0 ≤ x50_2) = true := decide_eq_true c36
                                          clear c36
                                          by_cases c37 : x50_2 < (x10_2.length : Int)
                                          · rw [if_pos c37] at H
                                            have c37b0 : decide (x50_2 < (x10_2.length : Int)) = true := decide_eq_true c37
                                            clear c37
                                            obtain ⟨y147, hy147⟩ : ∃ y_ : List Int, y_ = (x10_2.set (x50_2 : Int).toNat (Go.bits .or .u64 (ji28) (ji35))) := ⟨_, rfl⟩
                                            replace H : (nat_Shr.l0 k2 L_t140 x7_5 (wrap64 (Int.tdiv a1 64)) (ji26) y147 (y142.length : Int) (wrap64 (x50_2 + 1))) = some (r1, r2, r3) := by first | (rw [hy147]; with_reducible exact H) | (have H2_ := (Option.bind_some _ _).symm.trans H; rw [hy147]; with_reducible exact H2_) | (have H2_ := (Option.bind_some _ _).symm.trans H; with_reducible exact H2_) | with_reducible exact H | (rw [hy147]; exact H) | exact H
                                            have Ny147 := Aside0.mk hy147
                                            clear hy147
                                            have H' := Aside0.mk H
                                            clear H
                                            have p145 : 0 ≤ ((ji23) : Int) := of_decide_eq_true (by exact phTextsx3_2)
                                            have q145 : (ji23) < (L_t140.length : Int) := of_decide_eq_true (by exact phTextsx3_2)
                                            obtain ⟨ad145, e145, hx145_0⟩ := Kd.at_int HR141.out (ji23) p145 q145
                                            cases e145
                                            replace hx145_0 := (HB.out.cell (World.block_lt_of_cell? w _ hx145_0)).trans hx145_0
                                            replace p145 := eq_true p145
                                            replace q145 := eq_true q145
                                            have p146 : 0 ≤ ((ji31) : Int) := of_decide_eq_true (by exact phTextsx3_2)
                                            have q146 : (ji31) < (L_t140.length : Int) := of_decide_eq_true (by exact phTextsx3_2)
                                            obtain ⟨ad146, e146, hx146_0⟩ := Kd.at_int HR141.out (ji31) p146 q146
                                            obtain rfl : ad145 = ad146 := (by injection e146)
                                            replace hx146_0 := (HB.out.cell (World.block_lt_of_cell? w _ hx146_0)).trans hx146_0
                                            replace p146 := eq_true p146
                                            replace q146 := eq_true q146
                                            have p38 : 0 ≤ (x50_2 : Int) := of_decide_eq_true (by exact phTextsx3_2)
                                            have q38 : (x50_2 : Int) < ((x10_2.length : Int) : Int) := of_decide_eq_true (by exact phTextsx3_2)
                                            obtain ⟨go38, co38, eo38, gb38, gl38, cl38, HG38⟩ := Kd.R_form HO_10.out (by omega)
                                            (first | cases eo38 | (injection eo38 with ea_ en_ ec_; (first | subst ea_ | (injection ea_ with ea_; subst ea_)); subst ec_; clear en_))
                                            have GB38 := Aside0.mk gb38
                                            have GG38 := Aside0.mk HG38
                                            clear gb38 gl38 HG38
                                            obtain ⟨hx38_0, hf38_0⟩ := Kd.R_celln 0 HO_10.out (x50_2 : Int) p38 q38
                                            replace p38 := eq_true p38
                                            replace q38 := eq_true q38
                                            have HP39 := Kd.R_putg HO_10.out (x50_2 : Int) (Go.bits .or .u64 (ji28) (ji35))
                                            go_wp2_with (first | ((with_reducible refine gate_store (t := 22) (p := 87) rfl ?_); refine store_event (t := 22) (p := 87) (v := ?vo_w40) (w1 := (wr.setCell ⟨go38, (x50_2 : Int).toNat, none⟩ (.int .u64 (Go.bits .or .u64 (ji28) (ji35))))) ?hg ?ho ?hn ?hr ?_; (case ho => rfl); (case hg => rfl); (case hn => rfl); (case hr => first | (go_simp; done) | (go_simp; rfl)); intro w40 hw; have hg : wr.grownBy w40 (some go38) := (by rw [hw]; exact HP39.2); have hp_ : Kd.R (Kd.int .u64) 22 w40 w.heap.size (fun k_ => (w.heap.size ≤ k_)) (.slice (some ⟨go38, 0, none⟩) x10_2.length co21) y147 := (by rw [hw, Ny147.out]; exact HP39.1); clear HP39; have n0_ := Aside0.mk (hp_); have n1_ := Aside0.mk ((by rw [hw]; exact below_set (HB.out) GB38.out : Below w.heap.size w w40)); clear HO_10; clear HB; have HO_10 := n0_; have HB := n1_; clear n0_ n1_; clear hg hw hp_))
                                            (try simp only [← hl10_2])
                                            (try simp only [← hji35])
                                            (try simp only [← hji33])
                                            (try simp only [← hji31])
                                            (try simp only [← hji28])
                                            (try simp only [← hji26])
                                            (try simp only [← hji23])
                                            go_roundg k2
                                            case measure => have := HJ5.out; have := HK2.out; omega
                                            case rel => exact ⟨(y147), (wrap64 (x50_2 + 1)), (by exact phTextsx3_5), (by first | exact H' | ((try rw [hji35]); (try rw [hji33]); (try rw [hji31]); (try rw [hji28]); (try rw [hji26]); (try rw [hji23]); exact H')), ⟨by have := HJ5.out; have := HK2.out; omega⟩, ⟨by exact phTextsx3_11⟩, ⟨by exact phTextsx3_1⟩⟩
                                          · rw [if_neg c37] at H
                                            exact absurd H (by simp)
                                        · rw [if_neg c36] at H
                                          exact absurd H (by simp)
                                      · rw [if_neg c34] at H
                                        exact absurd H (by simp)
                                    · rw [if_neg c32] at H
                                      exact absurd H (by simp)
                                  · rw [if_neg c30] at H
                                    have c30b0 : decide (0 < (ji26)) = false := decide_eq_false c30
                                    clear c30
                                    by_cases c41 : 0 ≤ x50_2
                                    · rw [if_pos c41] at H
                                      have c41b0 : decide (0 ≤ x50_2) = true := decide_eq_true c41
                                      clear c41
                                      by_cases c42 : x50_2 < (x10_2.length : Int)
                                      · rw [if_pos c42] at H
                                        have c42b0 : decide (x50_2 < (x10_2.length : Int)) = true := decide_eq_true c42
                                        clear c42
                                        obtain ⟨y148, hy148⟩ : ∃ y_ : List Int, y_ = (x10_2.set (x50_2 : Int).toNat (ji28)) := ⟨_, rfl⟩
                                        replace H : (nat_Shr.l0 k2 L_t140 x7_5 (wrap64 (Int.tdiv a1 64)) (ji26) y148 (y142.length : Int) (wrap64 (x50_2 + 1))) = some (r1, r2, r3) := by first | (rw [hy148]; with_reducible exact H) | (have H2_ := (Option.bind_some _ _).symm.trans H; rw [hy148]; with_reducible exact H2_) | (have H2_ := (Option.bind_some _ _).symm.trans H; with_reducible exact H2_) | with_reducible exact H | (rw [hy148]; exact H) | exact H
                                        have Ny148 := Aside0.mk hy148
                                        clear hy148
                                        have H' := Aside0.mk H
                                        clear H
                                        have p145 : 0 ≤ ((ji23) : Int) := of_decide_eq_true (by exact phTextsx3_2)
                                        have q145 : (ji23) < (L_t140.length : Int) := of_decide_eq_true (by exact phTextsx3_2)
                                        obtain ⟨ad145, e145, hx145_0⟩ := Kd.at_int HR141.out (ji23) p145 q145
                                        cases e145
                                        replace hx145_0 := (HB.out.cell (World.block_lt_of_cell? w _ hx145_0)).trans hx145_0
                                        replace p145 := eq_true p145
                                        replace q145 := eq_true q145
                                        have p43 : 0 ≤ (x50_2 : Int) := of_decide_eq_true (by exact phTextsx3_2)
                                        have q43 : (x50_2 : Int) < ((x10_2.length : Int) : Int) := of_decide_eq_true (by exact phTextsx3_2)
                                        obtain ⟨go43, co43, eo43, gb43, gl43, cl43, HG43⟩ := Kd.R_form HO_10.out (by omega)
                                        (first | cases eo43 | (injection eo43 with ea_ en_ ec_; (first | subst ea_ | (injection ea_ with ea_; subst ea_)); subst ec_; clear en_))
                                        have GB43 := Aside0.mk gb43
                                        have GG43 := Aside0.mk HG43
                                        clear gb43 gl43 HG43
                                        obtain ⟨hx43_0, hf43_0⟩ := Kd.R_celln 0 HO_10.out (x50_2 : Int) p43 q43
                                        replace p43 := eq_true p43
                                        replace q43 := eq_true q43
                                        have HP44 := Kd.R_putg HO_10.out (x50_2 : Int) ji28
                                        go_wp2_with (first | ((with_reducible refine gate_store (t := 22) (p := 87) rfl ?_); refine store_event (t := 22) (p := 87) (v := ?vo_w45) (w1 := (wr.setCell ⟨go43, (x50_2 : Int).toNat, none⟩ (.int .u64 ji28))) ?hg ?ho ?hn ?hr ?_; (case ho => rfl); (case hg => rfl); (case hn => rfl); (case hr => first | (go_simp; done) | (go_simp; rfl)); intro w45 hw; have hg : wr.grownBy w45 (some go43) := (by rw [hw]; exact HP44.2); have hp_ : Kd.R (Kd.int .u64) 22 w45 w.heap.size (fun k_ => (w.heap.size ≤ k_)) (.slice (some ⟨go43, 0, none⟩) x10_2.length co21) y148 := (by rw [hw, Ny148.out]; exact HP44.1); clear HP44; have n0_ := Aside0.mk (hp_); have n1_ := Aside0.mk ((by rw [hw]; exact below_set (HB.out) GB43.out : Below w.heap.size w w45)); clear HO_10; clear HB; have HO_10 := n0_; have HB := n1_; clear n0_ n1_; clear hg hw hp_))
                                        (try simp only [← hl10_2])
                                        (try simp only [← hji35])
                                        (try simp only [← hji33])
                                        (try simp only [← hji31])
                                        (try simp only [← hji28])
                                        (try simp only [← hji26])
                                        (try simp only [← hji23])
                                        go_roundg k2
                                        case measure => have := HJ5.out; have := HK2.out; omega
                                        case rel => exact ⟨(y148), (wrap64 (x50_2 + 1)), (by exact phTextsx3_5), (by first | exact H' | ((try rw [hji35]); (try rw [hji33]); (try rw [hji31]); (try rw [hji28]); (try rw [hji26]); (try rw [hji23]); exact H')), ⟨by have := HJ5.out; have := HK2.out; omega⟩, ⟨by exact phTextsx3_11⟩, ⟨by exact phTextsx3_1⟩⟩
                                      · rw [if_neg c42] at H
                                        exact absurd H (by simp)
                                    · rw [if_neg c41] at H
                                      exact absurd H (by simp)
                                · rw [if_neg c29] at H
                                  have c29b0 : decide ((wrap64 ((ji23) + 1)) < (L_t140.length : Int)) = false := decide_eq_false c29
                                  clear c29
                                  by_cases c46 : 0 ≤ x50_2
                                  · rw [if_pos c46] at H
                                    have c46b0 : decide (0 ≤ x50_2) = true := decide_eq_true c46
                                    clear c46
                                    by_cases c47 : x50_2 < (x10_2.length : Int)
                                    · rw [if_pos c47] at H
                                      have c47b0 : decide (x50_2 < (x10_2.length : Int)) = true := decide_eq_true c47
                                      clear c47
                                      obtain ⟨y149, hy149⟩ : ∃ y_ : List Int, y_ = (x10_2.set (x50_2 : Int).toNat (ji28)) := ⟨_, rfl⟩
                                      replace H : (nat_Shr.l0 k2 L_t140 x7_5 (wrap64 (Int.tdiv a1 64)) (ji26) y149 (y142.length : Int) (wrap64 (x50_2 + 1))) = some (r1, r2, r3) := by first | (rw [hy149]; with_reducible exact H) | (have H2_ := (Option.bind_some _ _).symm.trans H; rw [hy149]; with_reducible exact H2_) | (have H2_ := (Option.bind_some _ _).symm.trans H; with_reducible exact H2_) | with_reducible exact H | (rw [hy149]; exact H) | exact H
                                      have Ny149 := Aside0.mk hy149
                                      clear hy149
                                      have H' := Aside0.mk H
                                      clear H
                                      have p145 : 0 ≤ ((ji23) : Int) := of_decide_eq_true (by exact phTextsx3_2)
                                      have q145 : (ji23) < (L_t140.length : Int) := of_decide_eq_true (by exact phTextsx3_2)
                                      obtain ⟨ad145, e145, hx145_0⟩ := Kd.at_int HR141.out (ji23) p145 q145
                                      cases e145
                                      replace hx145_0 := (HB.out.cell (World.block_lt_of_cell? w _ hx145_0)).trans hx145_0
                                      replace p145 := eq_true p145
                                      replace q145 := eq_true q145
                                      have p48 : 0 ≤ (x50_2 : Int) := of_decide_eq_true (by exact phTextsx3_2)
                                      have q48 : (x50_2 : Int) < ((x10_2.length : Int) : Int) := of_decide_eq_true (by exact phTextsx3_2)
                                      obtain ⟨go48, co48, eo48, gb48, gl48, cl48, HG48⟩ := Kd.R_form HO_10.out (by omega)
                                      (first | cases eo48 | (injection eo48 with ea_ en_ ec_; (first | subst ea_ | (injection ea_ with ea_; subst ea_)); subst ec_; clear en_))
                                      have GB48 := Aside0.mk gb48
                                      have GG48 := Aside0.mk HG48
                                      clear gb48 gl48 HG48
                                      obtain ⟨hx48_0, hf48_0⟩ := Kd.R_celln 0 HO_10.out (x50_2 : Int) p48 q48
                                      replace p48 := eq_true p48
                                      replace q48 := eq_true q48
                                      have HP49 := Kd.R_putg HO_10.out (x50_2 : Int) ji28
                                      go_wp2_with (first | ((with_reducible refine gate_store (t := 22) (p := 87) rfl ?_); refine store_event (t := 22) (p := 87) (v := ?vo_w50) (w1 := (wr.setCell ⟨go48, (x50_2 : Int).toNat, none⟩ (.int .u64 ji28))) ?hg ?ho ?hn ?hr ?_; (case ho => rfl); (case hg => rfl); (case hn => rfl); (case hr => first | (go_simp; done) | (go_simp; rfl)); intro w50 hw; have hg : wr.grownBy w50 (some go48) := (by rw [hw]; exact HP49.2); have hp_ : Kd.R (Kd.int .u64) 22 w50 w.heap.size (fun k_ => (w.heap.size ≤ k_)) (.slice (some ⟨go48, 0, none⟩) x10_2.length co21) y149 := (by rw [hw, Ny149.out]; exact HP49.1); clear HP49; have n0_ := Aside0.mk (hp_); have n1_ := Aside0.mk ((by rw [hw]; exact below_set (HB.out) GB48.out : Below w.heap.size w w50)); clear HO_10; clear HB; have HO_10 := n0_; have HB := n1_; clear n0_ n1_; clear hg hw hp_))
                                      (try simp only [← hl10_2])
                                      (try simp only [← hji33])
                                      (try simp only [← hji31])
                                      (try simp only [← hji28])
                                      (try simp only [← hji26])
                                      (try simp only [← hji23])
                                      go_roundg k2
                                      case measure => have := HJ5.out; have := HK2.out; omega
                                      case rel => exact ⟨(y149), (wrap64 (x50_2 + 1)), (by exact phTextsx3_5), (by first | exact H' | ((try rw [hji33]); (try rw [hji31]); (try rw [hji28]); (try rw [hji26]); (try rw [hji23]); exact H')), ⟨by have := HJ5.out; have := HK2.out; omega⟩, ⟨by exact phTextsx3_11⟩, ⟨by exact phTextsx3_1⟩⟩
                                    · rw [if_neg c47] at H
                                      exact absurd H (by simp)
                                  · rw [if_neg c46] at H
                                    exact absurd H (by simp)
                              · rw [if_neg c27] at H
                                exact absurd H (by simp)
                            · rw [if_neg c25] at H
                              exact absurd H (by simp)
                          · rw [if_neg c24] at H
                            exact absurd H (by simp)
                        · rw [if_neg c22] at H
                          have c22b0 : decide (x50_2 < (y142.length : Int)) = false := decide_eq_false c22
                          try (have c22b9 := c22b0; first | rw [hl10_2] at c22b9 | rw [← hl10_2] at c22b9)
                          clear c22
                          replace H := Option.bind_eq_some_iff.mp H
                          obtain ⟨⟨t150, t153⟩, A510, H⟩ := H
                          try dsimp only at H
                          have A51 := Aside0.mk A510
                          clear A510
                          simp only [Option.some.injEq, Prod.mk.injEq] at H
                          obtain ⟨rfl, rfl, rfl⟩ := H
                          go_wp2_with (first | ((with_reducible refine gate_callee (f := 201) rfl ?_); refine goesL_ (some 91) rfl rfl Tryz.func201 (by kernel_rfl) rfl #[.slice Ao21 x10_2.length co21] rfl (by exact phTextsx3_3) ?_; (with_reducible refine (nat_cut.calls k2 (fun k_ => some k_ = (.slice Ao21 x10_2.length co21 : Value).ownBlock) _ _ x10_2 t150 t153 _ ?side1 A51.out).mono ?_); (case side1 => exact Kd.R_V (Kd.R_tight rfl (HO_10.out))); rintro e w52 ⟨v151, rfl, ho0, hb⟩; refine ⟨_, rfl, ?_⟩; have n0_ := Aside0.mk (Kd.R_below (by (with_reducible repeat (first | apply Kd.R_alloc | apply Kd.R_drewN | apply Kd.R_drew)); exact HO_10.out) hb); have n1_ := Aside0.mk (Kd.V_lower (Kd.V_mono (ok' := fun k_ => (w.heap.size ≤ k_)) ho0 (fun k_ hk_ => Or.elim hk_ (fun hs_ => ((HO_10.out).1 k_ hs_.symm)) (fun hn_ => (Nat.le_trans (below_size (by exact phTextsx3_1)) hn_)))) (below_size (by exact phTextsx3_1))); have n2_ := Aside0.mk (below_step (by exact phTextsx3_1) hb); clear HO_10; clear HB; have HO_10 := n0_; have HO152 := n1_; have HB := n2_; clear n0_ n1_ n2_; (try clear hb); (try clear hb2); (try clear hk); (try clear hi); (try clear ho0)))
                          go_ret3
                          exact ⟨_, by first | rfl | (simp [errW_none, errW_some] <;> rfl) | (simp only [append_nothing]; done) | (simp only [append_nothing]; rfl) | (simp only [← hji15]; first | rfl | (simp [errW_none, errW_some] <;> rfl)) | (simp [*, errW_none, errW_some] <;> rfl), by (with_reducible repeat (first | apply Kd.V_alloc | apply Kd.V_drewN | apply Kd.V_drew)); exact HO152.out, by exact phTextsx3_1⟩
                  · rw [if_neg c17] at H
                    exact absurd H (by simp)
                · rw [if_neg c16] at H
                  exact absurd H (by simp)
            · rw [if_neg c12] at H
              exact absurd H (by simp)
          · rw [if_neg c11] at H
            exact absurd H (by simp)

/-! ### ieee_Whole: function 148 -/
def ieee_Whole.f (k : Nat) (a0 : Int) : Option (Bool × List Int × Int) := (ieee_Decode.f a0).bind fun bt154 => (if bt154.2.1 ≥ 3 then (some (false, ([] : List Int), 5)) else ((nat_FromUint.f bt154.2.2.1).bind fun t159 => (if bt154.2.2.2 ≥ 0 then ((nat_Shl.f k t159 bt154.2.2.2).bind fun bt162 => (some (bt154.1, bt162.1, bt162.2))) else ((nat_Shr.f k t159 (wrap64 (-bt154.2.2.2))).bind fun bt166 => (some (bt154.1, bt166.1, bt166.2.2))))))
theorem ieee_Whole.mono : ∀ a0 k, LeO (ieee_Whole.f k a0) (ieee_Whole.f (k + 1) a0) := by
  intro a0 k
  unfold ieee_Whole.f
  repeat' first
      | (with_reducible exact nat_Shl.mono _ _ _)
      | (with_reducible exact nat_Shr.mono _ _ _)
      | (with_reducible exact LeO.refl _)
      | (with_reducible exact LeO.none _)
      | (with_reducible refine LeO.ite ?_ ?_)
      | (with_reducible refine LeO.bind ?_ (fun _ => ?_))
      | exact nat_Shl.mono _ _ _
      | exact nat_Shr.mono _ _ _
      | exact LeO.none _
      | refine LeO.ite ?_ ?_
      | refine LeO.bind ?_ (fun _ => ?_)
set_option maxHeartbeats 8000000 in
set_option maxRecDepth 100000 in
theorem ieee_Whole.calls (k : Nat) (a0 : Int) (r1 : Bool) (r2 : List Int) (r3 : Int) (w : World) (h : ieee_Whole.f k a0 = some (r1, r2, r3)) (HG : Aside0 (GW w) := by exact phTextsx3_7) :
    Calls Tryz.prog 148 #[.int .u64 a0] w fun e w' => ∃ v1_ : Value, e = .returned (.tuple #[.bool r1, v1_, .int .i64 r3]) ∧ Kd.V (Kd.int .u64) 22 w' w.heap.size (fun k_ => (w.heap.size ≤ k_)) v1_ r2 ∧ Below w.heap.size w w' := by
  have hu216 := Tryz.underlying216
  have HB := Aside0.mk (Below.refl w.heap.size w)
  have H : ((ieee_Decode.f a0).bind fun bt154 => (if bt154.2.1 ≥ 3 then (some (false, ([] : List Int), 5)) else ((nat_FromUint.f bt154.2.2.1).bind fun t159 => (if bt154.2.2.2 ≥ 0 then ((nat_Shl.f k t159 bt154.2.2.2).bind fun bt162 => (some (bt154.1, bt162.1, bt162.2))) else ((nat_Shr.f k t159 (wrap64 (-bt154.2.2.2))).bind fun bt166 => (some (bt154.1, bt166.1, bt166.2.2))))))) = some (r1, r2, r3) := h
  clear h
  replace H := Option.bind_eq_some_iff.mp H
  obtain ⟨⟨t154, t155, t156, t157⟩, A20, H⟩ := H
  try dsimp only at H
  have A2 := Aside0.mk A20
  clear A20
  by_cases c3 : t155 ≥ 3
  · rw [if_pos c3] at H
    have c3b0 : decide (3 ≤ t155) = true := decide_eq_true c3
    clear c3
    simp only [Option.some.injEq, Prod.mk.injEq] at H
    obtain ⟨rfl, rfl, rfl⟩ := H
    go_enter Tryz.func148, Tryz.ntmps148
    go_wp2_with (first | ((with_reducible refine gate_callee (f := 146) rfl ?_); refine goesL_ (some 9) rfl rfl Tryz.func146 (by kernel_rfl) rfl #[.int .u64 a0] rfl (by exact phTextsx3_3) ?_; (with_reducible refine (ieee_Decode.calls a0 t154 t155 t156 t157 _ A2.out).mono ?_); rintro e w4 ⟨rfl, hb⟩; refine ⟨_, rfl, ?_⟩; have n0_ := Aside0.mk (below_step (by exact phTextsx3_1) hb); clear HB; have HB := n0_; clear n0_; (try clear hb); (try clear hb2); (try clear hk); (try clear hi)) | ((with_reducible refine gate_dst (N := 5) rfl ?_); refine box_event ?hg (N := 5) ?hd (cs := #[.bool false, .int .i64 0, .int .u64 0, .int .i64 0]) (t := 216) ?hr ?_; (case hd => rfl); (case hg => rfl); (case hr => first | (go_simp; done) | (go_simp; rfl)); intro gb158 hg w5 hbox hb; have n0_ := Aside0.mk (below_step (by exact phTextsx3_1) hb); have n1_ := Aside0.mk (hbox); have n2_ := Aside0.mk ((by rw [hg]; exact (below_size (by exact phTextsx3_1)) : w.heap.size ≤ gb158)); have n3_ := Aside0.mk ((by rw [hg]; exact (below_size (by exact phTextsx3_1)) : w.heap.size ≤ gb158)); clear HB; have HB := n0_; have BK158 := n1_; have GW158 := n2_; have GE158 := n3_; clear n0_ n1_ n2_ n3_; clear hb hbox hg; have hcz6_0 : w5.cell? ⟨gb158, 0, none⟩ = some (.bool false) := (blk_cell BK158.out 0).trans rfl; have hcz6_1 : w5.cell? ⟨gb158, 1, none⟩ = some (.int .i64 0) := (blk_cell BK158.out 1).trans rfl; have hcz6_2 : w5.cell? ⟨gb158, 2, none⟩ = some (.int .u64 0) := (blk_cell BK158.out 2).trans rfl; have hcz6_3 : w5.cell? ⟨gb158, 3, none⟩ = some (.int .i64 0) := (blk_cell BK158.out 3).trans rfl; have hfz6_0 := blk_frozen BK158.out 0; have hfz6_1 := blk_frozen BK158.out 1; have hfz6_2 := blk_frozen BK158.out 2; have hfz6_3 := blk_frozen BK158.out 3))
    go_ret3
    exact ⟨_, by exact phTextsx3_6, Kd.V_nil _ _ _ _ _, by exact phTextsx3_4⟩
  · rw [if_neg c3] at H
    have c3b0 : decide (3 ≤ t155) = false := decide_eq_false c3
    clear c3
    replace H := Option.bind_eq_some_iff.mp H
    obtain ⟨t159, A70, H⟩ := H
    try dsimp only at H
    have A7 := Aside0.mk A70
    clear A70
    by_cases c8 : t157 ≥ 0
    · rw [if_pos c8] at H
      have c8b0 : decide (0 ≤ t157) = true := decide_eq_true c8
      clear c8
      replace H := Option.bind_eq_some_iff.mp H
      obtain ⟨⟨t162, t165⟩, A90, H⟩ := H
      try dsimp only at H
      have A9 := Aside0.mk A90
      clear A90
      simp only [Option.some.injEq, Prod.mk.injEq] at H
      obtain ⟨rfl, rfl, rfl⟩ := H
      go_enter Tryz.func148, Tryz.ntmps148
      go_wp2_with (first | ((with_reducible refine gate_callee (f := 146) rfl ?_); refine goesL_ (some 9) rfl rfl Tryz.func146 (by kernel_rfl) rfl #[.int .u64 a0] rfl (by exact phTextsx3_3) ?_; (with_reducible refine (ieee_Decode.calls a0 t154 t155 t156 t157 _ A2.out).mono ?_); rintro e w10 ⟨rfl, hb⟩; refine ⟨_, rfl, ?_⟩; have n0_ := Aside0.mk (below_step (by exact phTextsx3_1) hb); clear HB; have HB := n0_; clear n0_; (try clear hb); (try clear hb2); (try clear hk); (try clear hi)) | ((with_reducible refine gate_dst (N := 5) rfl ?_); refine box_event ?hg (N := 5) ?hd (cs := #[.bool false, .int .i64 0, .int .u64 0, .int .i64 0]) (t := 216) ?hr ?_; (case hd => rfl); (case hg => rfl); (case hr => first | (go_simp; done) | (go_simp; rfl)); intro gb158 hg w11 hbox hb; have n0_ := Aside0.mk (below_step (by exact phTextsx3_1) hb); have n1_ := Aside0.mk (hbox); have n2_ := Aside0.mk ((by rw [hg]; exact (below_size (by exact phTextsx3_1)) : w.heap.size ≤ gb158)); have n3_ := Aside0.mk ((by rw [hg]; exact (below_size (by exact phTextsx3_1)) : w.heap.size ≤ gb158)); clear HB; have HB := n0_; have BK158 := n1_; have GW158 := n2_; have GE158 := n3_; clear n0_ n1_ n2_ n3_; clear hb hbox hg; have hcz12_0 : w11.cell? ⟨gb158, 0, none⟩ = some (.bool false) := (blk_cell BK158.out 0).trans rfl; have hcz12_1 : w11.cell? ⟨gb158, 1, none⟩ = some (.int .i64 0) := (blk_cell BK158.out 1).trans rfl; have hcz12_2 : w11.cell? ⟨gb158, 2, none⟩ = some (.int .u64 0) := (blk_cell BK158.out 2).trans rfl; have hcz12_3 : w11.cell? ⟨gb158, 3, none⟩ = some (.int .i64 0) := (blk_cell BK158.out 3).trans rfl; have hfz12_0 := blk_frozen BK158.out 0; have hfz12_1 := blk_frozen BK158.out 1; have hfz12_2 := blk_frozen BK158.out 2; have hfz12_3 := blk_frozen BK158.out 3) | ((with_reducible refine gate_callee (f := 169) rfl ?_); refine goesL_ (some 15) rfl rfl Tryz.func169 (by kernel_rfl) rfl #[.int .u64 t156] rfl (by exact phTextsx3_3) ?_; (with_reducible refine (nat_FromUint.calls t156 t159 _ A7.out).mono ?_); rintro e w13 ⟨v160, rfl, ho0, hb⟩; refine ⟨_, rfl, ?_⟩; have n0_ := Aside0.mk (Kd.R_lower (Kd.R_newM (M := fun k_ => (w.heap.size ≤ k_)) ho0 (below_size (by exact phTextsx3_4)) (fun k_ h_ => h_)) (below_size (by exact phTextsx3_4))); have n1_ := Aside0.mk (blk_below (g := gb158) (o := .cells #[.bool t154, .int .i64 t155, .int .u64 t156, .int .i64 t157] 216 (0, 0)) (by exact phTextsx3_12) hb); have n2_ := Aside0.mk (below_step (by exact phTextsx3_4) hb); clear BK158; clear HB; have HO161 := n0_; have BK158 := n1_; have HB := n2_; clear n0_ n1_ n2_; (try clear hb); (try clear hb2); (try clear hk); (try clear hi); (try clear ho0); have hcz14_0 : w13.cell? ⟨gb158, 0, none⟩ = some (.bool t154) := (blk_cell BK158.out 0).trans rfl; have hcz14_1 : w13.cell? ⟨gb158, 1, none⟩ = some (.int .i64 t155) := (blk_cell BK158.out 1).trans rfl; have hcz14_2 : w13.cell? ⟨gb158, 2, none⟩ = some (.int .u64 t156) := (blk_cell BK158.out 2).trans rfl; have hcz14_3 : w13.cell? ⟨gb158, 3, none⟩ = some (.int .i64 t157) := (blk_cell BK158.out 3).trans rfl; have hfz14_0 := blk_frozen BK158.out 0; have hfz14_1 := blk_frozen BK158.out 1; have hfz14_2 := blk_frozen BK158.out 2; have hfz14_3 := blk_frozen BK158.out 3; obtain ⟨Ao15, co15, eo15⟩ := Kd.R_slice HO161.out; subst eo15) | ((with_reducible refine gate_callee (f := 170) rfl ?_); refine goesL_ (some 23) rfl rfl Tryz.func170 (by kernel_rfl) rfl #[.slice Ao15 t159.length co15, .int .i64 t157] rfl (by exact phTextsx3_3) ?_; (with_reducible refine (nat_Shl.calls k _ _ t159 t157 t162 t165 _ ?side1 ?side2 A9.out).mono ?_); (case side1 => repeat (first | exact (Kd.R_reads' HO161.out).2.2 | (with_reducible refine Kd.C_alloc ?_ _) | (with_reducible refine Kd.C_drewN ?_ _) | (with_reducible refine Kd.C_drew ?_))); (case side2 => exact (Kd.R_reads' HO161.out).2.1); rintro e w16 ⟨v163, rfl, ho0, hb⟩; refine ⟨_, rfl, ?_⟩; have n0_ := Aside0.mk (Kd.R_below (by exact phTextsx3_9) hb); have n1_ := Aside0.mk (Kd.V_lower (Kd.V_mono (ok' := fun k_ => (w.heap.size ≤ k_) ∧ some k_ ≠ (.slice Ao15 t159.length co15 : Value).ownBlock ∧ k_ ≠ gb158) ho0 (fun k_ hk_ => ⟨(Nat.le_trans (below_size (by exact phTextsx3_4)) hk_), (Kd.fresh' (Kd.R_lt (by exact phTextsx3_9)) k_ hk_), (Kd.freshB (g := gb158) (o := .cells #[.bool t154, .int .i64 t155, .int .u64 t156, .int .i64 t157] 216 (0, 0)) (by exact phTextsx3_10) k_ hk_)⟩)) (below_size (by exact phTextsx3_4))); have n2_ := Aside0.mk (blk_below (g := gb158) (o := .cells #[.bool t154, .int .i64 t155, .int .u64 t156, .int .i64 t157] 216 (0, 0)) (by exact phTextsx3_10) hb); have n3_ := Aside0.mk (below_step (by exact phTextsx3_4) hb); clear HO161; clear BK158; clear HB; have HO161 := n0_; have HO164 := n1_; have BK158 := n2_; have HB := n3_; clear n0_ n1_ n2_ n3_; (try clear hb); (try clear hb2); (try clear hk); (try clear hi); (try clear ho0); have hcz17_0 : w16.cell? ⟨gb158, 0, none⟩ = some (.bool t154) := (blk_cell BK158.out 0).trans rfl; have hcz17_1 : w16.cell? ⟨gb158, 1, none⟩ = some (.int .i64 t155) := (blk_cell BK158.out 1).trans rfl; have hcz17_2 : w16.cell? ⟨gb158, 2, none⟩ = some (.int .u64 t156) := (blk_cell BK158.out 2).trans rfl; have hcz17_3 : w16.cell? ⟨gb158, 3, none⟩ = some (.int .i64 t157) := (blk_cell BK158.out 3).trans rfl; have hfz17_0 := blk_frozen BK158.out 0; have hfz17_1 := blk_frozen BK158.out 1; have hfz17_2 := blk_frozen BK158.out 2; have hfz17_3 := blk_frozen BK158.out 3))
      go_ret3
      exact ⟨_, by exact phTextsx3_6, by (with_reducible repeat (first | apply Kd.V_alloc | apply Kd.V_drewN | apply Kd.V_drew)); exact Kd.V_mono HO164.out (fun _ hk => hk.1), by exact phTextsx3_4⟩
    · rw [if_neg c8] at H
      have c8b0 : decide (0 ≤ t157) = false := decide_eq_false c8
      clear c8
      replace H := Option.bind_eq_some_iff.mp H
      obtain ⟨⟨t166, t169, t170⟩, A180, H⟩ := H
      try dsimp only at H
      have A18 := Aside0.mk A180
      clear A180
      simp only [Option.some.injEq, Prod.mk.injEq] at H
      obtain ⟨rfl, rfl, rfl⟩ := H
      go_enter Tryz.func148, Tryz.ntmps148
      go_wp2_with (first | ((with_reducible refine gate_callee (f := 146) rfl ?_); refine goesL_ (some 9) rfl rfl Tryz.func146 (by kernel_rfl) rfl #[.int .u64 a0] rfl (by exact phTextsx3_3) ?_; (with_reducible refine (ieee_Decode.calls a0 t154 t155 t156 t157 _ A2.out).mono ?_); rintro e w19 ⟨rfl, hb⟩; refine ⟨_, rfl, ?_⟩; have n0_ := Aside0.mk (below_step (by exact phTextsx3_1) hb); clear HB; have HB := n0_; clear n0_; (try clear hb); (try clear hb2); (try clear hk); (try clear hi)) | ((with_reducible refine gate_dst (N := 5) rfl ?_); refine box_event ?hg (N := 5) ?hd (cs := #[.bool false, .int .i64 0, .int .u64 0, .int .i64 0]) (t := 216) ?hr ?_; (case hd => rfl); (case hg => rfl); (case hr => first | (go_simp; done) | (go_simp; rfl)); intro gb158 hg w20 hbox hb; have n0_ := Aside0.mk (below_step (by exact phTextsx3_1) hb); have n1_ := Aside0.mk (hbox); have n2_ := Aside0.mk ((by rw [hg]; exact (below_size (by exact phTextsx3_1)) : w.heap.size ≤ gb158)); have n3_ := Aside0.mk ((by rw [hg]; exact (below_size (by exact phTextsx3_1)) : w.heap.size ≤ gb158)); clear HB; have HB := n0_; have BK158 := n1_; have GW158 := n2_; have GE158 := n3_; clear n0_ n1_ n2_ n3_; clear hb hbox hg; have hcz21_0 : w20.cell? ⟨gb158, 0, none⟩ = some (.bool false) := (blk_cell BK158.out 0).trans rfl; have hcz21_1 : w20.cell? ⟨gb158, 1, none⟩ = some (.int .i64 0) := (blk_cell BK158.out 1).trans rfl; have hcz21_2 : w20.cell? ⟨gb158, 2, none⟩ = some (.int .u64 0) := (blk_cell BK158.out 2).trans rfl; have hcz21_3 : w20.cell? ⟨gb158, 3, none⟩ = some (.int .i64 0) := (blk_cell BK158.out 3).trans rfl; have hfz21_0 := blk_frozen BK158.out 0; have hfz21_1 := blk_frozen BK158.out 1; have hfz21_2 := blk_frozen BK158.out 2; have hfz21_3 := blk_frozen BK158.out 3) | ((with_reducible refine gate_callee (f := 169) rfl ?_); refine goesL_ (some 15) rfl rfl Tryz.func169 (by kernel_rfl) rfl #[.int .u64 t156] rfl (by exact phTextsx3_3) ?_; (with_reducible refine (nat_FromUint.calls t156 t159 _ A7.out).mono ?_); rintro e w22 ⟨v160, rfl, ho0, hb⟩; refine ⟨_, rfl, ?_⟩; have n0_ := Aside0.mk (Kd.R_lower (Kd.R_newM (M := fun k_ => (w.heap.size ≤ k_)) ho0 (below_size (by exact phTextsx3_4)) (fun k_ h_ => h_)) (below_size (by exact phTextsx3_4))); have n1_ := Aside0.mk (blk_below (g := gb158) (o := .cells #[.bool t154, .int .i64 t155, .int .u64 t156, .int .i64 t157] 216 (0, 0)) (by exact phTextsx3_12) hb); have n2_ := Aside0.mk (below_step (by exact phTextsx3_4) hb); clear BK158; clear HB; have HO161 := n0_; have BK158 := n1_; have HB := n2_; clear n0_ n1_ n2_; (try clear hb); (try clear hb2); (try clear hk); (try clear hi); (try clear ho0); have hcz23_0 : w22.cell? ⟨gb158, 0, none⟩ = some (.bool t154) := (blk_cell BK158.out 0).trans rfl; have hcz23_1 : w22.cell? ⟨gb158, 1, none⟩ = some (.int .i64 t155) := (blk_cell BK158.out 1).trans rfl; have hcz23_2 : w22.cell? ⟨gb158, 2, none⟩ = some (.int .u64 t156) := (blk_cell BK158.out 2).trans rfl; have hcz23_3 : w22.cell? ⟨gb158, 3, none⟩ = some (.int .i64 t157) := (blk_cell BK158.out 3).trans rfl; have hfz23_0 := blk_frozen BK158.out 0; have hfz23_1 := blk_frozen BK158.out 1; have hfz23_2 := blk_frozen BK158.out 2; have hfz23_3 := blk_frozen BK158.out 3; obtain ⟨Ao24, co24, eo24⟩ := Kd.R_slice HO161.out; subst eo24) | ((with_reducible refine gate_callee (f := 171) rfl ?_); refine goesL_ (some 31) rfl rfl Tryz.func171 (by kernel_rfl) rfl #[.slice Ao24 t159.length co24, .int .i64 (wrap64 (-t157))] rfl (by exact phTextsx3_3) ?_; (with_reducible refine (nat_Shr.calls k _ _ t159 (wrap64 (-t157)) t166 t169 t170 _ ?side1 ?side2 A18.out).mono ?_); (case side1 => repeat (first | exact (Kd.R_reads' HO161.out).2.2 | (with_reducible refine Kd.C_alloc ?_ _) | (with_reducible refine Kd.C_drewN ?_ _) | (with_reducible refine Kd.C_drew ?_))); (case side2 => exact (Kd.R_reads' HO161.out).2.1); rintro e w25 ⟨v167, rfl, ho0, hb⟩; refine ⟨_, rfl, ?_⟩; have n0_ := Aside0.mk (Kd.R_below (by exact phTextsx3_9) hb); have n1_ := Aside0.mk (Kd.V_lower (Kd.V_mono (ok' := fun k_ => (w.heap.size ≤ k_) ∧ some k_ ≠ (.slice Ao24 t159.length co24 : Value).ownBlock ∧ k_ ≠ gb158) ho0 (fun k_ hk_ => ⟨(Nat.le_trans (below_size (by exact phTextsx3_4)) hk_), (Kd.fresh' (Kd.R_lt (by exact phTextsx3_9)) k_ hk_), (Kd.freshB (g := gb158) (o := .cells #[.bool t154, .int .i64 t155, .int .u64 t156, .int .i64 t157] 216 (0, 0)) (by exact phTextsx3_10) k_ hk_)⟩)) (below_size (by exact phTextsx3_4))); have n2_ := Aside0.mk (blk_below (g := gb158) (o := .cells #[.bool t154, .int .i64 t155, .int .u64 t156, .int .i64 t157] 216 (0, 0)) (by exact phTextsx3_10) hb); have n3_ := Aside0.mk (below_step (by exact phTextsx3_4) hb); clear HO161; clear BK158; clear HB; have HO161 := n0_; have HO168 := n1_; have BK158 := n2_; have HB := n3_; clear n0_ n1_ n2_ n3_; (try clear hb); (try clear hb2); (try clear hk); (try clear hi); (try clear ho0); have hcz26_0 : w25.cell? ⟨gb158, 0, none⟩ = some (.bool t154) := (blk_cell BK158.out 0).trans rfl; have hcz26_1 : w25.cell? ⟨gb158, 1, none⟩ = some (.int .i64 t155) := (blk_cell BK158.out 1).trans rfl; have hcz26_2 : w25.cell? ⟨gb158, 2, none⟩ = some (.int .u64 t156) := (blk_cell BK158.out 2).trans rfl; have hcz26_3 : w25.cell? ⟨gb158, 3, none⟩ = some (.int .i64 t157) := (blk_cell BK158.out 3).trans rfl; have hfz26_0 := blk_frozen BK158.out 0; have hfz26_1 := blk_frozen BK158.out 1; have hfz26_2 := blk_frozen BK158.out 2; have hfz26_3 := blk_frozen BK158.out 3))
      go_ret3
      exact ⟨_, by exact phTextsx3_6, by (with_reducible repeat (first | apply Kd.V_alloc | apply Kd.V_drewN | apply Kd.V_drew)); exact Kd.V_mono HO168.out (fun _ hk => hk.1), by exact phTextsx3_4⟩

/-! ### nat_ToUint: function 149 -/
def nat_ToUint.f (k : Nat) (l0 : List Int) : Option (Int × Bool) := (nat_size.f k l0).bind fun t171 => (if t171 = 0 then (some (0, true)) else (if t171 = 1 then (if 0 < (l0.length : Int) then (some (rd l0 0, true)) else (none)) else (some (0, false))))
theorem nat_ToUint.mono : ∀ a0 k, LeO (nat_ToUint.f k a0) (nat_ToUint.f (k + 1) a0) := by
  intro a0 k
  unfold nat_ToUint.f
  repeat' first
      | (with_reducible exact nat_size.mono _ _)
      | (with_reducible exact LeO.refl _)
      | (with_reducible exact LeO.none _)
      | (with_reducible refine LeO.ite ?_ ?_)
      | (with_reducible refine LeO.bind ?_ (fun _ => ?_))
      | exact nat_size.mono _ _
      | exact LeO.none _
      | refine LeO.ite ?_ ?_
      | refine LeO.bind ?_ (fun _ => ?_)
theorem nat_ToUint.w1 {P : Prop} (h : P := by
  go_enter Tryz.func149, Tryz.ntmps149
  go_wp2_with (first | ((with_reducible refine gate_callee (f := 172) rfl ?_); refine goesL_ (some 5) rfl rfl Tryz.func172 (by kernel_rfl) rfl #[.slice A0 l0.length c0] rfl (by exact phTextsx3_3) ?_; (with_reducible refine (nat_size.calls k _ _ l0 t171 _ ?side1 ?side2 A2.out).mono ?_); (case side1 => repeat (first | exact HR0.out | (with_reducible refine Kd.C_alloc ?_ _) | (with_reducible refine Kd.C_drewN ?_ _) | (with_reducible refine Kd.C_drew ?_))); (case side2 => exact HC0.out); rintro e w' ⟨rfl, ⟨nd, rfl⟩⟩; refine ⟨_, rfl, ?_⟩))
  go_ret2
  exact ⟨by exact phTextsx3_5, by repeat (first | exact Drawn0.refl _ | apply Drawn0.step)⟩) : P := h
set_option maxHeartbeats 8000000 in
set_option maxRecDepth 100000 in
theorem nat_ToUint.calls (k : Nat) (A0 : Option Addr) (c0 : Nat) (l0 : List Int) (r1 : Int) (r2 : Bool) (w : World) (hr0 : Kd.C (Kd.int .u64) w A0 l0.length l0) (hc0 : l0.length ≤ c0) (h : nat_ToUint.f k l0 = some (r1, r2)) (HG : Aside0 (GW w) := by exact phTextsx3_7) :
    Calls Tryz.prog 149 #[.slice A0 l0.length c0] w fun e w' => e = .returned (.tuple #[.int .u64 r1, .bool r2]) ∧ Drawn0 w w' := by
  have HR0 := Aside0.mk hr0
  have HC0 := Aside0.mk hc0
  clear hr0 hc0
  have H : ((nat_size.f k l0).bind fun t171 => (if t171 = 0 then (some (0, true)) else (if t171 = 1 then (if 0 < (l0.length : Int) then (some (rd l0 0, true)) else (none)) else (some (0, false))))) = some (r1, r2) := h
  clear h
  replace H := Option.bind_eq_some_iff.mp H
  obtain ⟨t171, A20, H⟩ := H
  try dsimp only at H
  have A2 := Aside0.mk A20
  clear A20
  by_cases c3 : t171 = 0
  · rw [if_pos c3] at H
    have c3b0 : (t171 == 0) = true := beq_iff_eq.mpr c3
    have c3b1 : (t171 != 0) = false := bne_eq_false_iff_eq.mpr c3
    clear c3
    simp only [Option.some.injEq, Prod.mk.injEq] at H
    obtain ⟨rfl, rfl⟩ := H
    exact nat_ToUint.w1
  · rw [if_neg c3] at H
    have c3b0 : (t171 == 0) = false := beq_eq_false_iff_ne.mpr c3
    have c3b1 : (t171 != 0) = true := bne_iff_ne.mpr c3
    by_cases c4 : t171 = 1
    · rw [if_pos c4] at H
      have c4b0 : (t171 == 1) = true := beq_iff_eq.mpr c4
      have c4b1 : (t171 != 1) = false := bne_eq_false_iff_eq.mpr c4
      clear c4
      by_cases c5 : 0 < (l0.length : Int)
      · rw [if_pos c5] at H
        have c5b0 : decide (0 < (l0.length : Int)) = true := decide_eq_true c5
        have c5b1 : decide (0 < l0.length) = true := decide_eq_true (by omega)
        clear c5
        simp only [Option.some.injEq, Prod.mk.injEq] at H
        obtain ⟨rfl, rfl⟩ := H
        go_enter Tryz.func149, Tryz.ntmps149
        go_wp2_with (first | ((with_reducible refine gate_callee (f := 172) rfl ?_); refine goesL_ (some 5) rfl rfl Tryz.func172 (by kernel_rfl) rfl #[.slice A0 l0.length c0] rfl (by exact phTextsx3_3) ?_; (with_reducible refine (nat_size.calls k _ _ l0 t171 _ ?side1 ?side2 A2.out).mono ?_); (case side1 => repeat (first | exact HR0.out | (with_reducible refine Kd.C_alloc ?_ _) | (with_reducible refine Kd.C_drewN ?_ _) | (with_reducible refine Kd.C_drew ?_))); (case side2 => exact HC0.out); rintro e w' ⟨rfl, ⟨nd, rfl⟩⟩; refine ⟨_, rfl, ?_⟩; have p172 : 0 ≤ (0 : Int) := (by omega); have q172 : 0 < (l0.length : Int) := of_decide_eq_true (by exact phTextsx3_2); obtain ⟨ad172, e172, hx172_0⟩ := Kd.at_int HR0.out 0 p172 q172; cases e172; have qi172 : (0 < l0.length) = True := eq_true (by omega); (try rw [show ((0 : Int)).toNat = 0 from rfl] at hx172_0); (try rw [Addr.add_zero'] at hx172_0); replace p172 := eq_true p172; replace q172 := eq_true q172))
        go_ret2
        exact ⟨by exact phTextsx3_5, by repeat (first | exact Drawn0.refl _ | apply Drawn0.step)⟩
      · rw [if_neg c5] at H
        exact absurd H (by simp)
    · rw [if_neg c4] at H
      have c4b0 : (t171 == 1) = false := beq_eq_false_iff_ne.mpr c4
      have c4b1 : (t171 != 1) = true := bne_iff_ne.mpr c4
      simp only [Option.some.injEq, Prod.mk.injEq] at H
      obtain ⟨rfl, rfl⟩ := H
      exact nat_ToUint.w1

/-! ### ieee_ToInt: function 118 -/
def ieee_ToInt.j0 : Nat → Bool → Int → Bool → Bool → Option (Int × Int)
  | 0, _, _, _, _ => none
  | k + 1, x4, x7, x8, x23 => if x23 = true then (some (wrap64 (x7), 0)) else (if x8 = true then (if x7 ≤ 9223372036854775808 then (if x4 = true then (some (wrap64 (-(wrap64 (x7))), 0)) else (some (0, 41))) else (some (0, 41))) else (some (0, 41)))
def ieee_ToInt.f (k : Nat) (a0 : Int) : Option (Int × Int) := (ieee_Whole.f k a0).bind fun bt173 => (if bt173.2.2 = 0 then ((nat_ToUint.f k bt173.2.1).bind fun bt178 => (if bt178.2 = true then (if bt178.1 < 9223372036854775808 then (ieee_ToInt.j0 k bt173.1 bt178.1 bt178.2 (!bt173.1)) else (ieee_ToInt.j0 k bt173.1 bt178.1 bt178.2 false)) else (ieee_ToInt.j0 k bt173.1 bt178.1 bt178.2 false))) else (some (0, bt173.2.2)))
theorem ieee_ToInt.mono_l : ∀ k, (∀ y0 y1 y2 y3, LeO (ieee_ToInt.j0 k y0 y1 y2 y3) (ieee_ToInt.j0 (k + 1) y0 y1 y2 y3))
  | 0 => fun _ _ _ _ r h => by simp [ieee_ToInt.j0] at h
  | k + 1 => by
    have ih0 := ieee_ToInt.mono_l k
    · intro y0 y1 y2 y3
      unfold ieee_ToInt.j0
      repeat' first
      | (with_reducible exact ih0 _ _ _ _)
      | (with_reducible exact ieee_Whole.mono _ _)
      | (with_reducible exact nat_ToUint.mono _ _)
      | (with_reducible exact LeO.refl _)
      | (with_reducible exact LeO.none _)
      | (with_reducible refine LeO.ite ?_ ?_)
      | (with_reducible refine LeO.bind ?_ (fun _ => ?_))
      | exact ih0 _ _ _ _
      | exact ieee_Whole.mono _ _
      | exact nat_ToUint.mono _ _
      | exact LeO.none _
      | refine LeO.ite ?_ ?_
      | refine LeO.bind ?_ (fun _ => ?_)
theorem ieee_ToInt.mono : ∀ a0 k, LeO (ieee_ToInt.f k a0) (ieee_ToInt.f (k + 1) a0) := by
  intro a0 k
  have ih0 := ieee_ToInt.mono_l k
  unfold ieee_ToInt.f
  repeat' first
      | (with_reducible exact ih0 _ _ _ _)
      | (with_reducible exact ieee_Whole.mono _ _)
      | (with_reducible exact nat_ToUint.mono _ _)
      | (with_reducible exact LeO.refl _)
      | (with_reducible exact LeO.none _)
      | (with_reducible refine LeO.ite ?_ ?_)
      | (with_reducible refine LeO.bind ?_ (fun _ => ?_))
      | exact ih0 _ _ _ _
      | exact ieee_Whole.mono _ _
      | exact nat_ToUint.mono _ _
      | exact LeO.none _
      | refine LeO.ite ?_ ?_
      | refine LeO.bind ?_ (fun _ => ?_)
theorem ieee_ToInt.w1 {P : Prop} (h : P := by
  go_wp2
  go_meet
  case rel => exact ⟨_, (false), (by exact phTextsx3_5), H', ⟨by first | omega | exact Nat.le_refl _⟩, ⟨by exact phTextsx3_1⟩⟩) : P := h
theorem ieee_ToInt.w2 {P : Prop} (h : P := by
  go_wp2
  go_ret2
  exact ⟨by exact phTextsx3_6, by exact phTextsx3_1⟩) : P := h
set_option maxHeartbeats 8000000 in
set_option maxRecDepth 100000 in
theorem ieee_ToInt.calls (k : Nat) (a0 : Int) (r1 : Int) (r2 : Int) (w : World) (h : ieee_ToInt.f k a0 = some (r1, r2)) (HG : Aside0 (GW w) := by exact phTextsx3_7) :
    Calls Tryz.prog 118 #[.int .u64 a0] w fun e w' => e = .returned (.tuple #[.int .i64 r1, .int .i64 r2]) ∧ Below w.heap.size w w' := by
  have HB := Aside0.mk (Below.refl w.heap.size w)
  have H : ((ieee_Whole.f k a0).bind fun bt173 => (if bt173.2.2 = 0 then ((nat_ToUint.f k bt173.2.1).bind fun bt178 => (if bt178.2 = true then (if bt178.1 < 9223372036854775808 then (ieee_ToInt.j0 k bt173.1 bt178.1 bt178.2 (!bt173.1)) else (ieee_ToInt.j0 k bt173.1 bt178.1 bt178.2 false)) else (ieee_ToInt.j0 k bt173.1 bt178.1 bt178.2 false))) else (some (0, bt173.2.2)))) = some (r1, r2) := h
  clear h
  replace H := Option.bind_eq_some_iff.mp H
  obtain ⟨⟨t173, t174, t177⟩, A20, H⟩ := H
  try dsimp only at H
  have A2 := Aside0.mk A20
  clear A20
  by_cases c3 : t177 = 0
  · rw [if_pos c3] at H
    have c3b0 : (t177 == 0) = true := beq_iff_eq.mpr c3
    have c3b1 : (t177 != 0) = false := bne_eq_false_iff_eq.mpr c3
    clear c3
    replace H := Option.bind_eq_some_iff.mp H
    obtain ⟨⟨t178, t179⟩, A40, H⟩ := H
    try dsimp only at H
    have A4 := Aside0.mk A40
    clear A40
    have HC5 := Aside0.mk H
    clear H
    go_enter Tryz.func118, Tryz.ntmps118
    go_upto_region 5 with (first | ((with_reducible refine gate_callee (f := 148) rfl ?_); refine goesL_ (some 11) rfl rfl Tryz.func148 (by kernel_rfl) rfl #[.int .u64 a0] rfl (by exact phTextsx3_3) ?_; (with_reducible refine (ieee_Whole.calls k a0 t173 t174 t177 _ A2.out).mono ?_); rintro e w6 ⟨v175, rfl, ho0, hb⟩; refine ⟨_, rfl, ?_⟩; have n0_ := Aside0.mk (Kd.V_lower (Kd.V_mono (ok' := fun k_ => True) ho0 (fun k_ hk_ => trivial)) (below_size (by exact phTextsx3_1))); have n1_ := Aside0.mk (below_step (by exact phTextsx3_1) hb); clear HB; have HO176 := n0_; have HB := n1_; clear n0_ n1_; (try clear hb); (try clear hb2); (try clear hk); (try clear hi); (try clear ho0); obtain ⟨Ao7, co7, eo7⟩ := Kd.V_slice HO176.out; subst eo7) | ((with_reducible refine gate_callee (f := 149) rfl ?_); refine goesL_ (some 20) rfl rfl Tryz.func149 (by kernel_rfl) rfl #[.slice Ao7 t174.length co7] rfl (by exact phTextsx3_3) ?_; (with_reducible refine (nat_ToUint.calls k _ _ t174 t178 t179 _ ?side1 ?side2 A4.out).mono ?_); (case side1 => repeat (first | exact (Kd.V_reads' HO176.out).2.2 | (with_reducible refine Kd.C_alloc ?_ _) | (with_reducible refine Kd.C_drewN ?_ _) | (with_reducible refine Kd.C_drew ?_))); (case side2 => exact (Kd.V_reads' HO176.out).2.1); rintro e w' ⟨rfl, ⟨nd, rfl⟩⟩; refine ⟨_, rfl, ?_⟩))
    (try simp only [Act.put, List.setIfInBounds_toArray, List.set_cons_zero, List.set_cons_succ])
    go_cut [23] (fun v23 wc => ∃ (kq : Nat) (x23_4 : Bool), v23 = .bool x23_4 ∧ Aside0 (ieee_ToInt.j0 kq t173 t178 t179 x23_4 = some (r1, r2)) ∧ Aside0 (kq ≤ k) ∧ Aside0 (Below w.heap.size w wc))
    case first =>
      have H := HC5.out
      clear HC5
      by_cases c8 : t179 = true
      · subst c8
        have H1 : (if t178 < 9223372036854775808 then (ieee_ToInt.j0 k t173 t178 true (!t173)) else (ieee_ToInt.j0 k t173 t178 true false)) = some (r1, r2) := by rw [if_pos rfl] at H; exact H
        clear H
        have H := H1
        clear H1
        by_cases c9 : t178 < 9223372036854775808
        · rw [if_pos c9] at H
          have c9b0 : decide (t178 < 9223372036854775808) = true := decide_eq_true c9
          clear c9
          (first | rw [c9b0] | (simp only [i64_w, i32_w]; rw [c9b0]) | skip)
          have H' := Aside0.mk H
          clear H
          go_wp2
          go_meet
          case rel => exact ⟨_, (!t173), (by exact phTextsx3_5), H', ⟨by first | omega | exact Nat.le_refl _⟩, ⟨by exact phTextsx3_1⟩⟩
        · rw [if_neg c9] at H
          have c9b0 : decide (t178 < 9223372036854775808) = false := decide_eq_false c9
          clear c9
          (first | rw [c9b0] | (simp only [i64_w, i32_w]; rw [c9b0]) | skip)
          have H' := Aside0.mk H
          clear H
          exact ieee_ToInt.w1
      · replace c8 := Bool.eq_false_iff.mpr c8
        subst c8
        have H1 : (ieee_ToInt.j0 k t173 t178 false false) = some (r1, r2) := by rw [if_neg (show ¬ (false = true) by decide)] at H; exact H
        clear H
        have H := H1
        clear H1
        have H' := Aside0.mk H
        clear H
        exact ieee_ToInt.w1
    case rest =>
      clear HC5
      try clear c1
      try clear p2
      try clear c3
      try clear c3b0
      try clear c3b1
      try clear c8
      try clear c9
      try clear c9b0
      obtain ⟨kq, x23_4, rfl, HA, HJ4, HB⟩ := hcut
      cases kq with
      | zero => exact absurd HA.out (by simp [ieee_ToInt.j0])
      | succ kj4 =>
        have H := HA.out
        clear HA
        simp only [ieee_ToInt.j0] at H
        by_cases c10 : x23_4 = true
        · subst c10
          have H1 : (some (wrap64 (t178), 0)) = some (r1, r2) := by rw [if_pos rfl] at H; exact H
          clear H
          have H := H1
          clear H1
          simp only [Option.some.injEq, Prod.mk.injEq] at H
          obtain ⟨rfl, rfl⟩ := H
          exact ieee_ToInt.w2
        · replace c10 := Bool.eq_false_iff.mpr c10
          subst c10
          have H1 : (if t179 = true then (if t178 ≤ 9223372036854775808 then (if t173 = true then (some (wrap64 (-(wrap64 (t178))), 0)) else (some (0, 41))) else (some (0, 41))) else (some (0, 41))) = some (r1, r2) := by rw [if_neg (show ¬ (false = true) by decide)] at H; exact H
          clear H
          have H := H1
          clear H1
          by_cases c11 : t179 = true
          · subst c11
            have H1 : (if t178 ≤ 9223372036854775808 then (if t173 = true then (some (wrap64 (-(wrap64 (t178))), 0)) else (some (0, 41))) else (some (0, 41))) = some (r1, r2) := by rw [if_pos rfl] at H; exact H
            clear H
            have H := H1
            clear H1
            by_cases c12 : t178 ≤ 9223372036854775808
            · rw [if_pos c12] at H
              have c12b0 : decide (t178 ≤ 9223372036854775808) = true := decide_eq_true c12
              clear c12
              by_cases c13 : t173 = true
              · subst c13
                have H1 : (some (wrap64 (-(wrap64 (t178))), 0)) = some (r1, r2) := by rw [if_pos rfl] at H; exact H
                clear H
                have H := H1
                clear H1
                simp only [Option.some.injEq, Prod.mk.injEq] at H
                obtain ⟨rfl, rfl⟩ := H
                exact ieee_ToInt.w2
              · replace c13 := Bool.eq_false_iff.mpr c13
                subst c13
                have H1 : (some (0, 41)) = some (r1, r2) := by rw [if_neg (show ¬ (false = true) by decide)] at H; exact H
                clear H
                have H := H1
                clear H1
                simp only [Option.some.injEq, Prod.mk.injEq] at H
                obtain ⟨rfl, rfl⟩ := H
                exact ieee_ToInt.w2
            · rw [if_neg c12] at H
              have c12b0 : decide (t178 ≤ 9223372036854775808) = false := decide_eq_false c12
              clear c12
              simp only [Option.some.injEq, Prod.mk.injEq] at H
              obtain ⟨rfl, rfl⟩ := H
              exact ieee_ToInt.w2
          · replace c11 := Bool.eq_false_iff.mpr c11
            subst c11
            have H1 : (some (0, 41)) = some (r1, r2) := by rw [if_neg (show ¬ (false = true) by decide)] at H; exact H
            clear H
            have H := H1
            clear H1
            simp only [Option.some.injEq, Prod.mk.injEq] at H
            obtain ⟨rfl, rfl⟩ := H
            exact ieee_ToInt.w2
  · rw [if_neg c3] at H
    have c3b0 : (t177 == 0) = false := beq_eq_false_iff_ne.mpr c3
    have c3b1 : (t177 != 0) = true := bne_iff_ne.mpr c3
    simp only [Option.some.injEq, Prod.mk.injEq] at H
    obtain ⟨rfl, rfl⟩ := H
    go_enter Tryz.func118, Tryz.ntmps118
    go_wp2_with (first | ((with_reducible refine gate_callee (f := 148) rfl ?_); refine goesL_ (some 11) rfl rfl Tryz.func148 (by kernel_rfl) rfl #[.int .u64 a0] rfl (by exact phTextsx3_3) ?_; (with_reducible refine (ieee_Whole.calls k a0 t173 t174 t177 _ A2.out).mono ?_); rintro e w14 ⟨v175, rfl, ho0, hb⟩; refine ⟨_, rfl, ?_⟩; have n0_ := Aside0.mk (Kd.V_lower (Kd.V_mono (ok' := fun k_ => True) ho0 (fun k_ hk_ => trivial)) (below_size (by exact phTextsx3_1))); have n1_ := Aside0.mk (below_step (by exact phTextsx3_1) hb); clear HB; have HO176 := n0_; have HB := n1_; clear n0_ n1_; (try clear hb); (try clear hb2); (try clear hk); (try clear hi); (try clear ho0)))
    go_ret2
    exact ⟨by exact phTextsx3_6, by exact phTextsx3_1⟩

/-! ### strconv_FormatInt: function 119 -/
def strconv_FormatInt.f (a0 : Int) (a1 : Int) : Option ByteArray := if a1 = 10 ∧ -9223372036854775808 ≤ a0 ∧ a0 ≤ 9223372036854775807 then some ⟨(Lib.itoa a0).toArray⟩ else none
theorem strconv_FormatInt.calls (a0 : Int) (a1 : Int) (r : ByteArray) (w : World) (h : strconv_FormatInt.f a0 a1 = some r) (HG : Aside0 (GW w) := by exact phTextsx3_7) :
    Calls Tryz.prog 119 #[.int .i64 a0, .int .i64 a1] w fun e w' => e = .returned (.string r) ∧ Below w.heap.size w w' := by
  unfold strconv_FormatInt.f at h
  split at h
  · rename_i h0
    cases h
    obtain ⟨rfl, h1, h2⟩ := h0
    refine (Tryz.strconv_FormatInt_10 a0 h1 h2 w HG.out.pow10).mono ?_
    rintro e w' ⟨he, k, os, rfl⟩
    exact ⟨he, below_growN w k os⟩
  · cases h

end Go.Proofs.YtoanmnhkhookfaaGreatDoor.PXRelateTexts
