/- The machine's side of a law, printed by a program of this session out of the translation; conditions: none. -/
import Derived.Test.YtgbjojokjekmhaaGreatDoorPXCx0
import Derived.Test.YtgbjojokjekmhaaGreatDoorPXCx3
import Derived.Test.YtgbjojokjekmhaaGreatDoorPXCx4
namespace Go.Proofs.YtgbjojokjekmhaaGreatDoor.PXC
open Go.Proofs.YtgbjojokjekmhaaGreatDoor
open Go.RowKit Go.Proofs.YtgbjojokjekmhaaGreatDoorW.PrintWords Go.Proofs.YtgbjojokjekmhaaGreatDoorW.PrintLast Go.Proofs.YtgbjojokjekmhaaGreatDoorW.PrintMore
attribute [local go_sem] max2_int min2_int max_two min_two max_three min_three max_four min_four   -- for this text's walks alone
set_option linter.unusedVariables false
set_option linter.unusedSimpArgs false

theorem phCx5_5 {P : Prop} (h : P := by (try simp only [hl10_2]); (with_reducible repeat (first | apply Kd.R_alloc | apply Kd.R_drewN | apply Kd.R_drew)); exact HO_10.out) : P := h
/-! ### nat_Shr: function 61 -/
mutual
def nat_Shr.j0 : Nat → List Int → Int → Bool → Option (List Int × Bool × Int)
  | 0, _, _, _ => none
  | k + 1, x0, x1, x7 => (nat_size.f k x0).bind fun t150 => (if 0 ≤ t150 then (if t150 ≤ (x0.length : Int) then (if x1 ≥ (wrap64 (64 * ((x0.take (t150 : Int).toNat).length : Int))) then (some (([] : List Int), x7, 0)) else (if 0 ≤ (wrap64 (((x0.take (t150 : Int).toNat).length : Int) - (wrap64 (Int.tdiv x1 64)))) then (if (wrap64 (((x0.take (t150 : Int).toNat).length : Int) - (wrap64 (Int.tdiv x1 64))) : Int).toNat ≤ 35184372088832 then ((some (List.replicate (wrap64 (((x0.take (t150 : Int).toNat).length : Int) - (wrap64 (Int.tdiv x1 64))) : Int).toNat 0 : List Int)).bind fun y152 => (nat_Shr.l0 k (x0.take (t150 : Int).toNat) x7 (wrap64 (Int.tdiv x1 64)) (IntKind.u64.wrap (Int.tmod x1 64)) y152 (y152.length : Int) 0)) else (none)) else (none))) else (none)) else (none))
def nat_Shr.l0 : Nat → List Int → Bool → Int → Int → List Int → Int → Int → Option (List Int × Bool × Int)
  | 0, _, _, _, _, _, _, _ => none
  | k + 1, x0, x7, x8, x9, x10, x49, x50 => if x50 < x49 then (if 0 ≤ (wrap64 (x8 + x50)) then (if (wrap64 (x8 + x50)) < (x0.length : Int) then (if 0 ≤ x9 then (if (wrap64 ((wrap64 (x8 + x50)) + 1)) < (x0.length : Int) then (if x9 > 0 then (if 0 ≤ (wrap64 ((wrap64 (x8 + x50)) + 1)) then (if 0 ≤ (IntKind.u64.wrap (64 - x9)) then (if 0 ≤ x50 then (if x50 < (x10.length : Int) then (nat_Shr.l0 k x0 x7 x8 x9 (x10.set (x50 : Int).toNat (Go.bits .or .u64 (shr .u64 (rd x0 (wrap64 (x8 + x50))) x9) (shl .u64 (rd x0 (wrap64 ((wrap64 (x8 + x50)) + 1))) (IntKind.u64.wrap (64 - x9))))) x49 (wrap64 (x50 + 1))) else (none)) else (none)) else (none)) else (none)) else (if 0 ≤ x50 then (if x50 < (x10.length : Int) then (nat_Shr.l0 k x0 x7 x8 x9 (x10.set (x50 : Int).toNat (shr .u64 (rd x0 (wrap64 (x8 + x50))) x9)) x49 (wrap64 (x50 + 1))) else (none)) else (none))) else (if 0 ≤ x50 then (if x50 < (x10.length : Int) then (nat_Shr.l0 k x0 x7 x8 x9 (x10.set (x50 : Int).toNat (shr .u64 (rd x0 (wrap64 (x8 + x50))) x9)) x49 (wrap64 (x50 + 1))) else (none)) else (none))) else (none)) else (none)) else (none)) else ((nat_cut.f k x10).bind fun bt160 => (some (bt160.1, x7, bt160.2)))
end
def nat_Shr.f (k : Nat) (l0 : List Int) (a1 : Int) : Option (List Int × Bool × Int) := (nat_big.f k l0).bind fun t147 => (if t147 = true then (some (([] : List Int), false, 2)) else (if a1 < 0 then (some (([] : List Int), false, 1)) else ((nat_size.f k l0).bind fun t148 => (if t148 > 0 then ((nat_Trail.f k l0).bind fun t149 => (nat_Shr.j0 k l0 a1 (decide (t149 < a1)))) else (nat_Shr.j0 k l0 a1 false)))))
theorem nat_Shr.mono_l : ∀ k, (∀ y0 y1 y2, LeO (nat_Shr.j0 k y0 y1 y2) (nat_Shr.j0 (k + 1) y0 y1 y2)) ∧ (∀ y0 y1 y2 y3 y4 y5 y6, LeO (nat_Shr.l0 k y0 y1 y2 y3 y4 y5 y6) (nat_Shr.l0 (k + 1) y0 y1 y2 y3 y4 y5 y6))
  | 0 => ⟨fun _ _ _ r h => by simp [nat_Shr.j0] at h, fun _ _ _ _ _ _ _ r h => by simp [nat_Shr.l0] at h⟩
  | k + 1 => by
    obtain ⟨ih0, ih1⟩ := nat_Shr.mono_l k
    refine ⟨?_, ?_⟩
    · intro y0 y1 y2
      unfold nat_Shr.j0
      repeat' first
      | (with_reducible exact ih0 _ _ _)
      | (with_reducible exact ih1 _ _ _ _ _ _ _)
      | (with_reducible exact nat_Trail.mono _ _)
      | (with_reducible exact nat_big.mono _ _)
      | (with_reducible exact nat_cut.mono _ _)
      | (with_reducible exact nat_size.mono _ _)
      | (with_reducible exact LeO.refl _)
      | (with_reducible exact LeO.none _)
      | (with_reducible refine LeO.ite ?_ ?_)
      | (with_reducible refine LeO.bind ?_ (fun _ => ?_))
      | exact ih0 _ _ _
      | exact ih1 _ _ _ _ _ _ _
      | exact nat_Trail.mono _ _
      | exact nat_big.mono _ _
      | exact nat_cut.mono _ _
      | exact nat_size.mono _ _
      | exact LeO.none _
      | refine LeO.ite ?_ ?_
      | refine LeO.bind ?_ (fun _ => ?_)
    · intro y0 y1 y2 y3 y4 y5 y6
      unfold nat_Shr.l0
      repeat' first
      | (with_reducible exact ih0 _ _ _)
      | (with_reducible exact ih1 _ _ _ _ _ _ _)
      | (with_reducible exact nat_Trail.mono _ _)
      | (with_reducible exact nat_big.mono _ _)
      | (with_reducible exact nat_cut.mono _ _)
      | (with_reducible exact nat_size.mono _ _)
      | (with_reducible exact LeO.refl _)
      | (with_reducible exact LeO.none _)
      | (with_reducible refine LeO.ite ?_ ?_)
      | (with_reducible refine LeO.bind ?_ (fun _ => ?_))
      | exact ih0 _ _ _
      | exact ih1 _ _ _ _ _ _ _
      | exact nat_Trail.mono _ _
      | exact nat_big.mono _ _
      | exact nat_cut.mono _ _
      | exact nat_size.mono _ _
      | exact LeO.none _
      | refine LeO.ite ?_ ?_
      | refine LeO.bind ?_ (fun _ => ?_)
theorem nat_Shr.mono : ∀ a0 a1 k, LeO (nat_Shr.f k a0 a1) (nat_Shr.f (k + 1) a0 a1) := by
  intro a0 a1 k; obtain ⟨ih0, ih1⟩ := nat_Shr.mono_l k; unfold nat_Shr.f; repeat' first
      | (with_reducible exact ih0 _ _ _)
      | (with_reducible exact ih1 _ _ _ _ _ _ _)
      | (with_reducible exact nat_Trail.mono _ _)
      | (with_reducible exact nat_big.mono _ _)
      | (with_reducible exact nat_cut.mono _ _)
      | (with_reducible exact nat_size.mono _ _)
      | (with_reducible exact LeO.refl _)
      | (with_reducible exact LeO.none _)
      | (with_reducible refine LeO.ite ?_ ?_)
      | (with_reducible refine LeO.bind ?_ (fun _ => ?_))
      | exact ih0 _ _ _
      | exact ih1 _ _ _ _ _ _ _
      | exact nat_Trail.mono _ _
      | exact nat_big.mono _ _
      | exact nat_cut.mono _ _
      | exact nat_size.mono _ _
      | exact LeO.none _
      | refine LeO.ite ?_ ?_
      | refine LeO.bind ?_ (fun _ => ?_)
theorem nat_Shr.w1 {P : Prop} (h : P := by
  go_enter Tryz.func61, Tryz.ntmps61; go_wp2_with (first | ((with_reducible refine gate_callee (f := 99) rfl ?_); refine goesL_ (some 16) rfl rfl Tryz.func99 (by kernel_rfl) rfl #[.slice A0 l0.length c0] rfl (by exact pz4) ?_; (with_reducible refine (nat_big.calls k _ _ l0 true _ ?side1 ?side2 A3.out).mono ?_); (case side1 => repeat (first | exact HR0.out | (with_reducible refine Kd.C_alloc ?_ _) | (with_reducible refine Kd.C_drewN ?_ _) | (with_reducible refine Kd.C_drew ?_))); (case side2 => exact HC0.out); rintro e w' ⟨rfl, ⟨nd, rfl⟩⟩; refine ⟨_, rfl, ?_⟩) | ((with_reducible refine gate_callee (f := 99) rfl ?_); refine goesL_ (some 16) rfl rfl Tryz.func99 (by kernel_rfl) rfl #[.slice A0 l0.length c0] rfl (by exact pz4) ?_; (with_reducible refine (nat_big.calls k _ _ l0 false _ ?side1 ?side2 A3.out).mono ?_); (case side1 => repeat (first | exact HR0.out | (with_reducible refine Kd.C_alloc ?_ _) | (with_reducible refine Kd.C_drewN ?_ _) | (with_reducible refine Kd.C_drew ?_))); (case side2 => exact HC0.out); rintro e w' ⟨rfl, ⟨nd, rfl⟩⟩; refine ⟨_, rfl, ?_⟩)); go_ret3
  exact ⟨_, by first | rfl | (simp [errW_none, errW_some] <;> rfl) | (simp only [append_nothing]; done) | (simp only [append_nothing]; rfl) | (simp [*, errW_none, errW_some] <;> rfl), Kd.V_nil _ _ _ _ _, by exact pz1⟩) : P := h
set_option maxHeartbeats 8000000 in
set_option maxRecDepth 100000 in
theorem nat_Shr.calls (k : Nat) (A0 : Option Addr) (c0 : Nat) (l0 : List Int) (a1 : Int) (r1 : List Int) (r2 : Bool) (r3 : Int) (w : World) (hr0 : Kd.C (Kd.int .u64) w A0 l0.length l0) (hc0 : l0.length ≤ c0) (h : nat_Shr.f k l0 a1 = some (r1, r2, r3)) (HG : Aside0 (GW w) := by first | (with_reducible exact HG) | exact ⟨GW.below HG.out (by repeat (first | (with_reducible first | exact HB.out | apply below_alloc | apply pw_below_drewN | apply below_drew1) | (with_reducible refine below_set ?_ (Aside0.out (by assumption))) | exact HB.out | exact Below.refl _ _))⟩ | exact ⟨GW.drewN HG.out _⟩ | exact ⟨GW.drew HG.out⟩ | exact ⟨GW.drewN (GW.drewN HG.out _) _⟩ | exact ⟨GW.drewN (GW.drew HG.out) _⟩) :
    Calls Tryz.prog 61 #[.slice A0 l0.length c0, .int .i64 a1] w fun e w' => ∃ v0_ : Value, e = .returned (.tuple #[v0_, .bool r2, .int .i64 r3]) ∧ Kd.V (Kd.int .u64) 24 w' w.heap.size (fun k_ => (w.heap.size ≤ k_)) v0_ r1 ∧ Below w.heap.size w w' := by
  have HR0 := Aside0.mk hr0; have HC0 := Aside0.mk hc0; clear hr0 hc0; have HB := Aside0.mk (Below.refl w.heap.size w); have H : ((nat_big.f k l0).bind fun t147 => (if t147 = true then (some (([] : List Int), false, 2)) else (if a1 < 0 then (some (([] : List Int), false, 1)) else ((nat_size.f k l0).bind fun t148 => (if t148 > 0 then ((nat_Trail.f k l0).bind fun t149 => (nat_Shr.j0 k l0 a1 (decide (t149 < a1)))) else (nat_Shr.j0 k l0 a1 false)))))) = some (r1, r2, r3) := h; clear h; replace H := Option.bind_eq_some_iff.mp H; obtain ⟨t147, A30, H⟩ := H; (try dsimp only at H); have A3 := Aside0.mk A30; clear A30; by_cases c4 : t147 = true
  · subst c4
    have H1 : (some (([] : List Int), false, 2)) = some (r1, r2, r3) := by rw [if_pos rfl] at H; exact H
    clear H; have H := H1; clear H1; simp only [Option.some.injEq, Prod.mk.injEq] at H; obtain ⟨rfl, rfl, rfl⟩ := H; exact nat_Shr.w1
  replace c4 := Bool.eq_false_iff.mpr c4; subst c4; have H1 : (if a1 < 0 then (some (([] : List Int), false, 1)) else ((nat_size.f k l0).bind fun t148 => (if t148 > 0 then ((nat_Trail.f k l0).bind fun t149 => (nat_Shr.j0 k l0 a1 (decide (t149 < a1)))) else (nat_Shr.j0 k l0 a1 false)))) = some (r1, r2, r3) := by rw [if_neg (show ¬ (false = true) by decide)] at H; exact H
  clear H; have H := H1; clear H1; by_cases c5 : a1 < 0
  · rw [if_pos c5] at H
    have c5b0 : decide (a1 < 0) = true := decide_eq_true c5; clear c5; simp only [Option.some.injEq, Prod.mk.injEq] at H; obtain ⟨rfl, rfl, rfl⟩ := H; exact nat_Shr.w1
  rw [if_neg c5] at H; have c5b0 : decide (a1 < 0) = false := decide_eq_false c5; clear c5; have HC6 := Aside0.mk H; clear H; go_enter Tryz.func61, Tryz.ntmps61; go_upto_region 5 with (first | ((with_reducible refine gate_callee (f := 99) rfl ?_); refine goesL_ (some 16) rfl rfl Tryz.func99 (by kernel_rfl) rfl #[.slice A0 l0.length c0] rfl (by exact pz4) ?_; (with_reducible refine (nat_big.calls k _ _ l0 false _ ?side1 ?side2 A3.out).mono ?_); (case side1 => repeat (first | exact HR0.out | (with_reducible refine Kd.C_alloc ?_ _) | (with_reducible refine Kd.C_drewN ?_ _) | (with_reducible refine Kd.C_drew ?_))); (case side2 => exact HC0.out); rintro e w' ⟨rfl, ⟨nd, rfl⟩⟩; refine ⟨_, rfl, ?_⟩))
  (try simp only [Act.put, List.setIfInBounds_toArray, List.set_cons_zero, List.set_cons_succ])
  go_cut [7] (fun v7 wc => ∃ (kq : Nat) (x7_5 : Bool), v7 = .bool x7_5 ∧ Aside0 (nat_Shr.j0 kq l0 a1 x7_5 = some (r1, r2, r3)) ∧ Aside0 (kq ≤ k) ∧ Aside0 (Below w.heap.size w wc))
  case first =>
    have H := HC6.out; clear HC6; replace H := Option.bind_eq_some_iff.mp H; obtain ⟨t148, A70, H⟩ := H; (try dsimp only at H); have A7 := Aside0.mk A70; clear A70; by_cases c8 : t148 > 0
    · rw [if_pos c8] at H
      have c8b0 : decide (0 < t148) = true := decide_eq_true c8; clear c8; (first | rw [c8b0] | (simp only [i64_w, i32_w]; rw [c8b0]) | skip)
      replace H := Option.bind_eq_some_iff.mp H; obtain ⟨t149, A90, H⟩ := H; (try dsimp only at H); have A9 := Aside0.mk A90; clear A90; have H' := Aside0.mk H; clear H; go_wp2_with (first | ((with_reducible refine gate_callee (f := 100) rfl ?_); refine goesL_ (some 20) rfl rfl Tryz.func100 (by kernel_rfl) rfl #[.slice A0 l0.length c0] rfl (by exact pz4) ?_; (with_reducible refine (nat_size.calls k _ _ l0 t148 _ ?side1 ?side2 A7.out).mono ?_); (case side1 => repeat (first | exact (Kd.C_below HR0.out HB.out) | (with_reducible refine Kd.C_alloc ?_ _) | (with_reducible refine Kd.C_drewN ?_ _) | (with_reducible refine Kd.C_drew ?_))); (case side2 => exact HC0.out); rintro e w' ⟨rfl, ⟨nd, rfl⟩⟩; refine ⟨_, rfl, ?_⟩) | (go_at_call 60; (with_reducible refine (nat_Trail.calls k _ _ l0 t149 _ ?side1 ?side2 A9.out).mono ?_); (case side1 => repeat (first | exact (Kd.C_below HR0.out (by exact pz1)) | (with_reducible refine Kd.C_alloc ?_ _) | (with_reducible refine Kd.C_drewN ?_ _) | (with_reducible refine Kd.C_drew ?_))); (case side2 => exact HC0.out); rintro e w' ⟨rfl, ⟨nd, rfl⟩⟩)); go_meet
      case rel => exact ⟨_, (decide (t149 < a1)), (by exact pz3), H', ⟨by first | omega | exact Nat.le_refl _⟩, ⟨by exact pz1⟩⟩
    rw [if_neg c8] at H; have c8b0 : decide (0 < t148) = false := decide_eq_false c8; clear c8; (first | rw [c8b0] | (simp only [i64_w, i32_w]; rw [c8b0]) | skip)
    have H' := Aside0.mk H; clear H; go_wp2_with (first | ((with_reducible refine gate_callee (f := 100) rfl ?_); refine goesL_ (some 20) rfl rfl Tryz.func100 (by kernel_rfl) rfl #[.slice A0 l0.length c0] rfl (by exact pz4) ?_; (with_reducible refine (nat_size.calls k _ _ l0 t148 _ ?side1 ?side2 A7.out).mono ?_); (case side1 => repeat (first | exact (Kd.C_below HR0.out HB.out) | (with_reducible refine Kd.C_alloc ?_ _) | (with_reducible refine Kd.C_drewN ?_ _) | (with_reducible refine Kd.C_drew ?_))); (case side2 => exact HC0.out); rintro e w' ⟨rfl, ⟨nd, rfl⟩⟩; refine ⟨_, rfl, ?_⟩)); go_meet
    case rel => exact ⟨_, (false), (by exact pz3), H', ⟨by first | omega | exact Nat.le_refl _⟩, ⟨by exact pz1⟩⟩
  case rest =>
    clear HC6; (try clear c1); (try clear p2); (try clear c4); (try clear c5); (try clear c5b0); (try clear c6); (try clear c8); (try clear c8b0); (try clear c9); obtain ⟨kq, x7_5, rfl, HA, HJ5, HB⟩ := hcut; cases kq with
    | zero => exact absurd HA.out (by simp [nat_Shr.j0])
    | succ kj5 =>
      have H := HA.out; clear HA; simp only [nat_Shr.j0] at H; replace H := Option.bind_eq_some_iff.mp H; obtain ⟨t150, A100, H⟩ := H; (try dsimp only at H); have A10 := Aside0.mk A100; clear A100; by_cases c11 : 0 ≤ t150
      · rw [if_pos c11] at H
        have c11b0 := eq_true c11; have c11b1 : decide (0 ≤ t150) = true := decide_eq_true c11; clear c11; by_cases c12 : t150 ≤ (l0.length : Int)
        · rw [if_pos c12] at H
          have c12b0 := eq_true c12; have c12b1 : decide (t150 ≤ (l0.length : Int)) = true := decide_eq_true c12; clear c12; obtain ⟨L_t150, hL_t150⟩ : ∃ L_, l0.take (t150 : Int).toNat = L_ := ⟨_, rfl⟩; rw [hL_t150] at H; by_cases c13 : a1 ≥ (wrap64 (64 * (L_t150.length : Int)))
          · rw [if_pos c13] at H
            have c13b0 : decide ((wrap64 (64 * (L_t150.length : Int))) ≤ a1) = true := decide_eq_true c13; clear c13; simp only [Option.some.injEq, Prod.mk.injEq] at H; obtain ⟨rfl, rfl, rfl⟩ := H; go_wp2_with (first | ((with_reducible refine gate_callee (f := 100) rfl ?_); refine goesL_ (some 30) rfl rfl Tryz.func100 (by kernel_rfl) rfl #[.slice A0 l0.length c0] rfl (by exact pz4) ?_; (with_reducible refine (nat_size.calls kj5 _ _ l0 t150 _ ?side1 ?side2 A10.out).mono ?_); (case side1 => repeat (first | exact (Kd.C_below HR0.out HB.out) | (with_reducible refine Kd.C_alloc ?_ _) | (with_reducible refine Kd.C_drewN ?_ _) | (with_reducible refine Kd.C_drew ?_))); (case side2 => exact HC0.out); rintro e w' ⟨rfl, ⟨nd, rfl⟩⟩; refine ⟨_, rfl, ?_⟩; obtain ⟨i014, hi014, _, hsz14, _⟩ := info_parts info24; obtain ⟨hcut14, hA14, hC14⟩ := print_take_of (P := Tryz.prog) (Value.int .u64) 0 101 24 .i64 Tryz.underlying101 hi014 hsz14 A0 c0 l0 t150 (of_decide_eq_true (by exact pz8)) (of_decide_eq_true (by exact pz8)) HC0.out; rw [hL_t150] at hcut14 hA14 hC14; have HR151 := Aside0.mk (Kd.C_of_reads (h1 := fun _ => rfl) (hA14 _ (Kd.reads_of_C HR0.out))); have HC151 := Aside0.mk hC14; clear hA14 hC14 hi014 hsz14)); go_ret3
            exact ⟨_, by first | rfl | (simp [errW_none, errW_some] <;> rfl) | (simp only [append_nothing]; done) | (simp only [append_nothing]; rfl) | (simp [*, errW_none, errW_some] <;> rfl), Kd.V_nil _ _ _ _ _, by exact pz1⟩
          rw [if_neg c13] at H; have c13b0 : decide ((wrap64 (64 * (L_t150.length : Int))) ≤ a1) = false := decide_eq_false c13; clear c13; obtain ⟨ji15, hji15⟩ : ∃ j_ : Int, (wrap64 ((L_t150.length : Int) - (wrap64 (Int.tdiv a1 64)))) = j_ := ⟨_, rfl⟩; replace H : (if 0 ≤ (ji15) then (if (ji15 : Int).toNat ≤ 35184372088832 then ((some (List.replicate (ji15 : Int).toNat 0 : List Int)).bind fun y152 => (nat_Shr.l0 kj5 L_t150 x7_5 (wrap64 (Int.tdiv a1 64)) (IntKind.u64.wrap (Int.tmod a1 64)) y152 (y152.length : Int) 0)) else (none)) else (none)) = some (r1, r2, r3) := by first | (rw [hji15] at H; exact H) | (simp only [hji15] at H ⊢; exact H)
          (try rw [hji15] at A10)
          have hji15w : (IntKind.i64.wrap ((L_t150.length : Int) - (wrap64 (Int.tdiv a1 64)))) = ji15 := (i64_w _).trans hji15; by_cases c16 : 0 ≤ (ji15)
          · rw [if_pos c16] at H
            have c16b0 := eq_true c16; have c16b1 : decide (0 ≤ (ji15)) = true := decide_eq_true c16; clear c16; by_cases c17 : (ji15 : Int).toNat ≤ 35184372088832
            · rw [if_pos c17] at H
              have c17b0 := eq_true c17; have c17b1 : decide ((ji15 : Int).toNat ≤ 35184372088832) = true := decide_eq_true c17; clear c17; obtain ⟨y152, hy152⟩ : ∃ y_ : List Int, y_ = (List.replicate (ji15 : Int).toNat 0) := ⟨_, rfl⟩; replace H : (nat_Shr.l0 kj5 L_t150 x7_5 (wrap64 (Int.tdiv a1 64)) (IntKind.u64.wrap (Int.tmod a1 64)) y152 (y152.length : Int) 0) = some (r1, r2, r3) := by first | (rw [hy152]; with_reducible exact H) | (have H2_ := (Option.bind_some _ _).symm.trans H; rw [hy152]; with_reducible exact H2_) | (have H2_ := (Option.bind_some _ _).symm.trans H; with_reducible exact H2_) | with_reducible exact H | (rw [hy152]; exact H) | exact H
              have Ny152 := Aside0.mk hy152; clear hy152; have H' := Aside0.mk H; clear H; go_wp2_with (first | ((with_reducible refine gate_callee (f := 100) rfl ?_); refine goesL_ (some 30) rfl rfl Tryz.func100 (by kernel_rfl) rfl #[.slice A0 l0.length c0] rfl (by exact pz4) ?_; (with_reducible refine (nat_size.calls kj5 _ _ l0 t150 _ ?side1 ?side2 A10.out).mono ?_); (case side1 => repeat (first | exact (Kd.C_below HR0.out HB.out) | (with_reducible refine Kd.C_alloc ?_ _) | (with_reducible refine Kd.C_drewN ?_ _) | (with_reducible refine Kd.C_drew ?_))); (case side2 => exact HC0.out); rintro e w' ⟨rfl, ⟨nd, rfl⟩⟩; refine ⟨_, rfl, ?_⟩; obtain ⟨i018, hi018, _, hsz18, _⟩ := info_parts info24; obtain ⟨hcut18, hA18, hC18⟩ := print_take_of (P := Tryz.prog) (Value.int .u64) 0 101 24 .i64 Tryz.underlying101 hi018 hsz18 A0 c0 l0 t150 (of_decide_eq_true (by exact pz8)) (of_decide_eq_true (by exact pz8)) HC0.out; rw [hL_t150] at hcut18 hA18 hC18; have HR151 := Aside0.mk (Kd.C_of_reads (h1 := fun _ => rfl) (hA18 _ (Kd.reads_of_C HR0.out))); have HC151 := Aside0.mk hC18; clear hA18 hC18 hi018 hsz18) | ((with_reducible refine gate_dst (N := 47) rfl ?_); refine Kd.R_make (Kd.int .u64) _ 24 rfl (N := 47) rfl 101 _ _ rfl ji15 rfl rfl Tryz.underlying101 (.int .u64 0) 8 info24 rfl (by decide) (by omega) 0 (ok := fun _ => True) (okp := fun _ => True) rfl (fun _ hk => hk) trivial (of_decide_eq_true (by exact pz8)) (Nat.le_trans (Nat.mul_le_mul_right _ (of_decide_eq_true (by exact pz8) : ji15.toNat ≤ 35184372088832)) (by omega)) (Below.refl _ _) (Nat.le_refl _) ?_; intro v153 w19 ho20 hb hg_ hnew_; clear hg_ hnew_; (first | rw [← Ny152.out] at ho20 | (simp only [Int.reduceToNat] at ho20; rw [← Ny152.out] at ho20)); have n0_ := Aside0.mk (Kd.R_lower (Kd.R_newM (M := fun k_ => (w.heap.size ≤ k_)) ho20 (below_size (by exact pz1)) (fun k_ h_ => h_)) (below_size (by exact pz1))); have n1_ := Aside0.mk (below_step (by exact pz1) hb); clear HB; have HO154 := n0_; have HB := n1_; clear n0_ n1_; clear hb ho20; obtain ⟨Ao21, co21, eo21⟩ := Kd.R_slice HO154.out; subst eo21)); go_loopg [50] kj5 (fun kq v50 w' => ∃ (x10_2 : List Int) (x50_2 : Int), v50 = .int .i64 x50_2 ∧ Aside0 (nat_Shr.l0 kq L_t150 x7_5 (wrap64 (Int.tdiv a1 64)) (IntKind.u64.wrap (Int.tmod a1 64)) x10_2 (y152.length : Int) x50_2 = some (r1, r2, r3)) ∧ Aside0 (kq ≤ kj5) ∧ Aside0 (Kd.R (Kd.int .u64) 24 w' w.heap.size (fun k_ => (w.heap.size ≤ k_)) (.slice Ao21 y152.length co21) x10_2) ∧ Aside0 (Below w.heap.size w w'))
              case atStart => exact ⟨(y152), (0), (by exact pz3), H', ⟨Nat.le_refl _⟩, ⟨by (with_reducible repeat (first | apply Kd.R_alloc | apply Kd.R_drewN | apply Kd.R_drew)); exact Kd.R_mono HO154.out (fun _ hk => hk.1)⟩, ⟨by exact pz1⟩⟩
              case round =>
                clear H'; (try clear c1); (try clear p2); (try clear c4); (try clear c5); (try clear c5b0); (try clear c6); (try clear p6); (try clear c8); (try clear c8b0); (try clear c9); (try clear c10); (try clear c11); (try clear c11b0); (try clear c11b1); (try clear c12); (try clear c12b0); (try clear c12b1); (try clear c13); (try clear c13b0); (try clear c16); (try clear c16b0); (try clear c16b1); (try clear c17); (try clear c17b0); (try clear c17b1); (try clear p2); obtain ⟨x10_2, x50_2, rfl, HA, HK2, HO_10, HB⟩ := hrel; have hl10_2 := (Kd.R_reads' HO_10.out).1; rw [hl10_2] at HO_10; (try simp only [hl10_2])
                cases gk with
                | zero => exact absurd HA.out (by simp [nat_Shr.l0])
                | succ k2 =>
                  have H := HA.out; clear HA; simp only [nat_Shr.l0] at H; by_cases c22 : x50_2 < (y152.length : Int)
                  · rw [if_pos c22] at H
                    have c22b0 : decide (x50_2 < (y152.length : Int)) = true := decide_eq_true c22; clear c22; obtain ⟨ji23, hji23⟩ : ∃ j_ : Int, (wrap64 ((wrap64 (Int.tdiv a1 64)) + x50_2)) = j_ := ⟨_, rfl⟩; replace H : (if 0 ≤ (ji23) then (if (ji23) < (L_t150.length : Int) then (if 0 ≤ (IntKind.u64.wrap (Int.tmod a1 64)) then (if (wrap64 ((ji23) + 1)) < (L_t150.length : Int) then (if (IntKind.u64.wrap (Int.tmod a1 64)) > 0 then (if 0 ≤ (wrap64 ((ji23) + 1)) then (if 0 ≤ (IntKind.u64.wrap (64 - (IntKind.u64.wrap (Int.tmod a1 64)))) then (if 0 ≤ x50_2 then (if x50_2 < (x10_2.length : Int) then (nat_Shr.l0 k2 L_t150 x7_5 (wrap64 (Int.tdiv a1 64)) (IntKind.u64.wrap (Int.tmod a1 64)) (x10_2.set (x50_2 : Int).toNat (Go.bits .or .u64 (shr .u64 (rd L_t150 (ji23)) (IntKind.u64.wrap (Int.tmod a1 64))) (shl .u64 (rd L_t150 (wrap64 ((ji23) + 1))) (IntKind.u64.wrap (64 - (IntKind.u64.wrap (Int.tmod a1 64))))))) (y152.length : Int) (wrap64 (x50_2 + 1))) else (none)) else (none)) else (none)) else (none)) else (if 0 ≤ x50_2 then (if x50_2 < (x10_2.length : Int) then (nat_Shr.l0 k2 L_t150 x7_5 (wrap64 (Int.tdiv a1 64)) (IntKind.u64.wrap (Int.tmod a1 64)) (x10_2.set (x50_2 : Int).toNat (shr .u64 (rd L_t150 (ji23)) (IntKind.u64.wrap (Int.tmod a1 64)))) (y152.length : Int) (wrap64 (x50_2 + 1))) else (none)) else (none))) else (if 0 ≤ x50_2 then (if x50_2 < (x10_2.length : Int) then (nat_Shr.l0 k2 L_t150 x7_5 (wrap64 (Int.tdiv a1 64)) (IntKind.u64.wrap (Int.tmod a1 64)) (x10_2.set (x50_2 : Int).toNat (shr .u64 (rd L_t150 (ji23)) (IntKind.u64.wrap (Int.tmod a1 64)))) (y152.length : Int) (wrap64 (x50_2 + 1))) else (none)) else (none))) else (none)) else (none)) else (none)) = some (r1, r2, r3) := by first | (rw [hji23] at H; exact H) | (simp only [hji23] at H ⊢; exact H)
                    have hji23w : (IntKind.i64.wrap ((wrap64 (Int.tdiv a1 64)) + x50_2)) = ji23 := (i64_w _).trans hji23; by_cases c24 : 0 ≤ (ji23)
                    · rw [if_pos c24] at H
                      have c24b0 : decide (0 ≤ (ji23)) = true := decide_eq_true c24; clear c24; by_cases c25 : (ji23) < (L_t150.length : Int)
                      · rw [if_pos c25] at H
                        have c25b0 : decide ((ji23) < (L_t150.length : Int)) = true := decide_eq_true c25; clear c25; obtain ⟨ji26, hji26⟩ : ∃ j_ : Int, (IntKind.u64.wrap (Int.tmod a1 64)) = j_ := ⟨_, rfl⟩; replace H : (if 0 ≤ (ji26) then (if (wrap64 ((ji23) + 1)) < (L_t150.length : Int) then (if (ji26) > 0 then (if 0 ≤ (wrap64 ((ji23) + 1)) then (if 0 ≤ (IntKind.u64.wrap (64 - (ji26))) then (if 0 ≤ x50_2 then (if x50_2 < (x10_2.length : Int) then (nat_Shr.l0 k2 L_t150 x7_5 (wrap64 (Int.tdiv a1 64)) (ji26) (x10_2.set (x50_2 : Int).toNat (Go.bits .or .u64 (shr .u64 (rd L_t150 (ji23)) (ji26)) (shl .u64 (rd L_t150 (wrap64 ((ji23) + 1))) (IntKind.u64.wrap (64 - (ji26)))))) (y152.length : Int) (wrap64 (x50_2 + 1))) else (none)) else (none)) else (none)) else (none)) else (if 0 ≤ x50_2 then (if x50_2 < (x10_2.length : Int) then (nat_Shr.l0 k2 L_t150 x7_5 (wrap64 (Int.tdiv a1 64)) (ji26) (x10_2.set (x50_2 : Int).toNat (shr .u64 (rd L_t150 (ji23)) (ji26))) (y152.length : Int) (wrap64 (x50_2 + 1))) else (none)) else (none))) else (if 0 ≤ x50_2 then (if x50_2 < (x10_2.length : Int) then (nat_Shr.l0 k2 L_t150 x7_5 (wrap64 (Int.tdiv a1 64)) (ji26) (x10_2.set (x50_2 : Int).toNat (shr .u64 (rd L_t150 (ji23)) (ji26))) (y152.length : Int) (wrap64 (x50_2 + 1))) else (none)) else (none))) else (none)) = some (r1, r2, r3) := by first | (rw [hji26] at H; exact H) | (simp only [hji26] at H ⊢; exact H)
                        by_cases c27 : 0 ≤ (ji26)
                        · rw [if_pos c27] at H
                          have c27b0 := eq_true c27; have c27b1 : decide (0 ≤ (ji26)) = true := decide_eq_true c27; clear c27; obtain ⟨ji28, hji28⟩ : ∃ j_ : Int, (shr .u64 (rd L_t150 (ji23)) (ji26)) = j_ := ⟨_, rfl⟩; replace H : (if (wrap64 ((ji23) + 1)) < (L_t150.length : Int) then (if (ji26) > 0 then (if 0 ≤ (wrap64 ((ji23) + 1)) then (if 0 ≤ (IntKind.u64.wrap (64 - (ji26))) then (if 0 ≤ x50_2 then (if x50_2 < (x10_2.length : Int) then (nat_Shr.l0 k2 L_t150 x7_5 (wrap64 (Int.tdiv a1 64)) (ji26) (x10_2.set (x50_2 : Int).toNat (Go.bits .or .u64 (ji28) (shl .u64 (rd L_t150 (wrap64 ((ji23) + 1))) (IntKind.u64.wrap (64 - (ji26)))))) (y152.length : Int) (wrap64 (x50_2 + 1))) else (none)) else (none)) else (none)) else (none)) else (if 0 ≤ x50_2 then (if x50_2 < (x10_2.length : Int) then (nat_Shr.l0 k2 L_t150 x7_5 (wrap64 (Int.tdiv a1 64)) (ji26) (x10_2.set (x50_2 : Int).toNat (ji28)) (y152.length : Int) (wrap64 (x50_2 + 1))) else (none)) else (none))) else (if 0 ≤ x50_2 then (if x50_2 < (x10_2.length : Int) then (nat_Shr.l0 k2 L_t150 x7_5 (wrap64 (Int.tdiv a1 64)) (ji26) (x10_2.set (x50_2 : Int).toNat (ji28)) (y152.length : Int) (wrap64 (x50_2 + 1))) else (none)) else (none))) = some (r1, r2, r3) := by first | (rw [hji28] at H; exact H) | (simp only [hji28] at H ⊢; exact H)
                          have hji28_ : ((rd L_t150 (ji23)) / 2 ^ min (ji26).toNat 64) = ji28 := hji28; have hji28z : (ji26) ≤ 64 → ((rd L_t150 (ji23)) / 2 ^ (ji26).toNat) = ji28 := shr_small hji28; by_cases c29 : (wrap64 ((ji23) + 1)) < (L_t150.length : Int)
                          · rw [if_pos c29] at H
                            have c29b0 : decide ((wrap64 ((ji23) + 1)) < (L_t150.length : Int)) = true := decide_eq_true c29; clear c29; by_cases c30 : (ji26) > 0
                            · rw [if_pos c30] at H
                              have c30b0 : decide (0 < (ji26)) = true := decide_eq_true c30; clear c30; obtain ⟨ji31, hji31⟩ : ∃ j_ : Int, (wrap64 ((ji23) + 1)) = j_ := ⟨_, rfl⟩; replace H : (if 0 ≤ (ji31) then (if 0 ≤ (IntKind.u64.wrap (64 - (ji26))) then (if 0 ≤ x50_2 then (if x50_2 < (x10_2.length : Int) then (nat_Shr.l0 k2 L_t150 x7_5 (wrap64 (Int.tdiv a1 64)) (ji26) (x10_2.set (x50_2 : Int).toNat (Go.bits .or .u64 (ji28) (shl .u64 (rd L_t150 (ji31)) (IntKind.u64.wrap (64 - (ji26)))))) (y152.length : Int) (wrap64 (x50_2 + 1))) else (none)) else (none)) else (none)) else (none)) = some (r1, r2, r3) := by first | (rw [hji31] at H; exact H) | (simp only [hji31] at H ⊢; exact H)
                              (try rw [hji31] at c29b0)
                              have hji31w : (IntKind.i64.wrap ((ji23) + 1)) = ji31 := (i64_w _).trans hji31; by_cases c32 : 0 ≤ (ji31)
                              · rw [if_pos c32] at H
                                have c32b0 : decide (0 ≤ (ji31)) = true := decide_eq_true c32; clear c32; obtain ⟨ji33, hji33⟩ : ∃ j_ : Int, (IntKind.u64.wrap (64 - (ji26))) = j_ := ⟨_, rfl⟩; replace H : (if 0 ≤ (ji33) then (if 0 ≤ x50_2 then (if x50_2 < (x10_2.length : Int) then (nat_Shr.l0 k2 L_t150 x7_5 (wrap64 (Int.tdiv a1 64)) (ji26) (x10_2.set (x50_2 : Int).toNat (Go.bits .or .u64 (ji28) (shl .u64 (rd L_t150 (ji31)) (ji33)))) (y152.length : Int) (wrap64 (x50_2 + 1))) else (none)) else (none)) else (none)) = some (r1, r2, r3) := by first | (rw [hji33] at H; exact H) | (simp only [hji33] at H ⊢; exact H)
                                by_cases c34 : 0 ≤ (ji33)
                                · rw [if_pos c34] at H
                                  have c34b0 := eq_true c34; have c34b1 : decide (0 ≤ (ji33)) = true := decide_eq_true c34; clear c34; obtain ⟨ji35, hji35⟩ : ∃ j_ : Int, (shl .u64 (rd L_t150 (ji31)) (ji33)) = j_ := ⟨_, rfl⟩; replace H : (if 0 ≤ x50_2 then (if x50_2 < (x10_2.length : Int) then (nat_Shr.l0 k2 L_t150 x7_5 (wrap64 (Int.tdiv a1 64)) (ji26) (x10_2.set (x50_2 : Int).toNat (Go.bits .or .u64 (ji28) (ji35))) (y152.length : Int) (wrap64 (x50_2 + 1))) else (none)) else (none)) = some (r1, r2, r3) := by first | (rw [hji35] at H; exact H) | (simp only [hji35] at H ⊢; exact H)
                                  have hji35_ : (IntKind.u64.wrap ((rd L_t150 (ji31)) * 2 ^ min (ji33).toNat 64)) = ji35 := hji35; have hji35z : (ji33) ≤ 64 → (IntKind.u64.wrap ((rd L_t150 (ji31)) * 2 ^ (ji33).toNat)) = ji35 := shl_small hji35; by_cases c36 : 0 ≤ x50_2
                                  · rw [if_pos c36] at H
                                    have c36b0 : decide (0 ≤ x50_2) = true := decide_eq_true c36; clear c36; by_cases c37 : x50_2 < (x10_2.length : Int)
                                    · rw [if_pos c37] at H
                                      have c37b0 : decide (x50_2 < (x10_2.length : Int)) = true := decide_eq_true c37; clear c37; obtain ⟨y157, hy157⟩ : ∃ y_ : List Int, y_ = (x10_2.set (x50_2 : Int).toNat (Go.bits .or .u64 (ji28) (ji35))) := ⟨_, rfl⟩; replace H : (nat_Shr.l0 k2 L_t150 x7_5 (wrap64 (Int.tdiv a1 64)) (ji26) y157 (y152.length : Int) (wrap64 (x50_2 + 1))) = some (r1, r2, r3) := by first | (rw [hy157]; with_reducible exact H) | (have H2_ := (Option.bind_some _ _).symm.trans H; rw [hy157]; with_reducible exact H2_) | (have H2_ := (Option.bind_some _ _).symm.trans H; with_reducible exact H2_) | with_reducible exact H | (rw [hy157]; exact H) | exact H
                                      have Ny157 := Aside0.mk hy157; clear hy157; have H' := Aside0.mk H; clear H; have p155 : 0 ≤ ((ji23) : Int) := of_decide_eq_true (by exact pz8); have q155 : (ji23) < (L_t150.length : Int) := of_decide_eq_true (by exact pz8); obtain ⟨ad155, e155, hx155_0⟩ := Kd.at_int HR151.out (ji23) p155 q155; cases e155
                                      replace hx155_0 := (HB.out.cell (World.block_lt_of_cell? w _ hx155_0)).trans hx155_0; replace p155 := eq_true p155; replace q155 := eq_true q155; have p156 : 0 ≤ ((ji31) : Int) := of_decide_eq_true (by exact pz8); have q156 : (ji31) < (L_t150.length : Int) := of_decide_eq_true (by exact pz8); obtain ⟨ad156, e156, hx156_0⟩ := Kd.at_int HR151.out (ji31) p156 q156; obtain rfl : ad155 = ad156 := (by injection e156); replace hx156_0 := (HB.out.cell (World.block_lt_of_cell? w _ hx156_0)).trans hx156_0; replace p156 := eq_true p156; replace q156 := eq_true q156; have p38 : 0 ≤ (x50_2 : Int) := of_decide_eq_true (by exact pz8); have q38 : (x50_2 : Int) < ((x10_2.length : Int) : Int) := of_decide_eq_true (by exact pz8); obtain ⟨go38, co38, eo38, gb38, gl38, cl38, HG38⟩ := Kd.R_form HO_10.out (by omega); (first | cases eo38 | (injection eo38 with ea_ en_ ec_; (first | subst ea_ | (injection ea_ with ea_; subst ea_)); subst ec_; clear en_))
                                      have GB38 := Aside0.mk gb38; have GG38 := Aside0.mk HG38; clear gb38 gl38 HG38; obtain ⟨hx38_0, hf38_0⟩ := Kd.R_celln 0 HO_10.out (x50_2 : Int) p38 q38; replace p38 := eq_true p38; replace q38 := eq_true q38; have HP39 := Kd.R_putg HO_10.out (x50_2 : Int) (Go.bits .or .u64 (ji28) (ji35)); go_wp2_with (first | ((with_reducible refine gate_store (t := 24) (p := 87) rfl ?_); refine store_event (t := 24) (p := 87) (v := ?vo_w40) (w1 := (wr.setCell ⟨go38, (x50_2 : Int).toNat, none⟩ (.int .u64 (Go.bits .or .u64 (ji28) (ji35))))) ?hg ?ho ?hn ?hr ?_; (case ho => rfl); (case hg => rfl); (case hn => rfl); (case hr => first | (go_simp; done) | (go_simp; rfl)); intro w40 hw; have hg : wr.grownBy w40 (some go38) := (by rw [hw]; exact HP39.2); have hp_ : Kd.R (Kd.int .u64) 24 w40 w.heap.size (fun k_ => (w.heap.size ≤ k_)) (.slice (some ⟨go38, 0, none⟩) x10_2.length co21) y157 := (by rw [hw, Ny157.out]; exact HP39.1); clear HP39; have n0_ := Aside0.mk (hp_); have n1_ := Aside0.mk ((by rw [hw]; exact below_set (HB.out) GB38.out : Below w.heap.size w w40)); clear HO_10; clear HB; have HO_10 := n0_; have HB := n1_; clear n0_ n1_; clear hg hw hp_)); (try simp only [← hl10_2])
                                      (try simp only [← hji35])
                                      (try simp only [← hji33])
                                      (try simp only [← hji31])
                                      (try simp only [← hji28])
                                      (try simp only [← hji26])
                                      (try simp only [← hji23])
                                      go_roundg k2
                                      case measure => have := HJ5.out; have := HK2.out; omega
                                      case rel => exact ⟨(y157), (wrap64 (x50_2 + 1)), (by exact pz3), (by first | exact H' | ((try rw [hji35]); (try rw [hji33]); (try rw [hji31]); (try rw [hji28]); (try rw [hji26]); (try rw [hji23]); exact H')), ⟨by have := HJ5.out; have := HK2.out; omega⟩, ⟨by exact phCx5_5⟩, ⟨by exact pz1⟩⟩
                                    rw [if_neg c37] at H; exact absurd H (by simp)
                                  rw [if_neg c36] at H; exact absurd H (by simp)
                                rw [if_neg c34] at H; exact absurd H (by simp)
                              rw [if_neg c32] at H; exact absurd H (by simp)
                            rw [if_neg c30] at H; have c30b0 : decide (0 < (ji26)) = false := decide_eq_false c30; clear c30; by_cases c41 : 0 ≤ x50_2
                            · rw [if_pos c41] at H
                              have c41b0 : decide (0 ≤ x50_2) = true := decide_eq_true c41; clear c41; by_cases c42 : x50_2 < (x10_2.length : Int)
                              · rw [if_pos c42] at H
                                have c42b0 : decide (x50_2 < (x10_2.length : Int)) = true := decide_eq_true c42; clear c42; obtain ⟨y158, hy158⟩ : ∃ y_ : List Int, y_ = (x10_2.set (x50_2 : Int).toNat (ji28)) := ⟨_, rfl⟩; replace H : (nat_Shr.l0 k2 L_t150 x7_5 (wrap64 (Int.tdiv a1 64)) (ji26) y158 (y152.length : Int) (wrap64 (x50_2 + 1))) = some (r1, r2, r3) := by first | (rw [hy158]; with_reducible exact H) | (have H2_ := (Option.bind_some _ _).symm.trans H; rw [hy158]; with_reducible exact H2_) | (have H2_ := (Option.bind_some _ _).symm.trans H; with_reducible exact H2_) | with_reducible exact H | (rw [hy158]; exact H) | exact H
                                have Ny158 := Aside0.mk hy158; clear hy158; have H' := Aside0.mk H; clear H; have p155 : 0 ≤ ((ji23) : Int) := of_decide_eq_true (by exact pz8); have q155 : (ji23) < (L_t150.length : Int) := of_decide_eq_true (by exact pz8); obtain ⟨ad155, e155, hx155_0⟩ := Kd.at_int HR151.out (ji23) p155 q155; cases e155
                                replace hx155_0 := (HB.out.cell (World.block_lt_of_cell? w _ hx155_0)).trans hx155_0; replace p155 := eq_true p155; replace q155 := eq_true q155; have p43 : 0 ≤ (x50_2 : Int) := of_decide_eq_true (by exact pz8); have q43 : (x50_2 : Int) < ((x10_2.length : Int) : Int) := of_decide_eq_true (by exact pz8); obtain ⟨go43, co43, eo43, gb43, gl43, cl43, HG43⟩ := Kd.R_form HO_10.out (by omega); (first | cases eo43 | (injection eo43 with ea_ en_ ec_; (first | subst ea_ | (injection ea_ with ea_; subst ea_)); subst ec_; clear en_))
                                have GB43 := Aside0.mk gb43; have GG43 := Aside0.mk HG43; clear gb43 gl43 HG43; obtain ⟨hx43_0, hf43_0⟩ := Kd.R_celln 0 HO_10.out (x50_2 : Int) p43 q43; replace p43 := eq_true p43; replace q43 := eq_true q43; have HP44 := Kd.R_putg HO_10.out (x50_2 : Int) ji28; go_wp2_with (first | ((with_reducible refine gate_store (t := 24) (p := 87) rfl ?_); refine store_event (t := 24) (p := 87) (v := ?vo_w45) (w1 := (wr.setCell ⟨go43, (x50_2 : Int).toNat, none⟩ (.int .u64 ji28))) ?hg ?ho ?hn ?hr ?_; (case ho => rfl); (case hg => rfl); (case hn => rfl); (case hr => first | (go_simp; done) | (go_simp; rfl)); intro w45 hw; have hg : wr.grownBy w45 (some go43) := (by rw [hw]; exact HP44.2); have hp_ : Kd.R (Kd.int .u64) 24 w45 w.heap.size (fun k_ => (w.heap.size ≤ k_)) (.slice (some ⟨go43, 0, none⟩) x10_2.length co21) y158 := (by rw [hw, Ny158.out]; exact HP44.1); clear HP44; have n0_ := Aside0.mk (hp_); have n1_ := Aside0.mk ((by rw [hw]; exact below_set (HB.out) GB43.out : Below w.heap.size w w45)); clear HO_10; clear HB; have HO_10 := n0_; have HB := n1_; clear n0_ n1_; clear hg hw hp_)); (try simp only [← hl10_2])
                                (try simp only [← hji35])
                                (try simp only [← hji33])
                                (try simp only [← hji31])
                                (try simp only [← hji28])
                                (try simp only [← hji26])
                                (try simp only [← hji23])
                                go_roundg k2
                                case measure => have := HJ5.out; have := HK2.out; omega
                                case rel => exact ⟨(y158), (wrap64 (x50_2 + 1)), (by exact pz3), (by first | exact H' | ((try rw [hji35]); (try rw [hji33]); (try rw [hji31]); (try rw [hji28]); (try rw [hji26]); (try rw [hji23]); exact H')), ⟨by have := HJ5.out; have := HK2.out; omega⟩, ⟨by exact phCx5_5⟩, ⟨by exact pz1⟩⟩
                              rw [if_neg c42] at H; exact absurd H (by simp)
                            rw [if_neg c41] at H; exact absurd H (by simp)
                          rw [if_neg c29] at H; have c29b0 : decide ((wrap64 ((ji23) + 1)) < (L_t150.length : Int)) = false := decide_eq_false c29; clear c29; by_cases c46 : 0 ≤ x50_2
                          · rw [if_pos c46] at H
                            have c46b0 : decide (0 ≤ x50_2) = true := decide_eq_true c46; clear c46; by_cases c47 : x50_2 < (x10_2.length : Int)
                            · rw [if_pos c47] at H
                              have c47b0 : decide (x50_2 < (x10_2.length : Int)) = true := decide_eq_true c47; clear c47; obtain ⟨y159, hy159⟩ : ∃ y_ : List Int, y_ = (x10_2.set (x50_2 : Int).toNat (ji28)) := ⟨_, rfl⟩; replace H : (nat_Shr.l0 k2 L_t150 x7_5 (wrap64 (Int.tdiv a1 64)) (ji26) y159 (y152.length : Int) (wrap64 (x50_2 + 1))) = some (r1, r2, r3) := by first | (rw [hy159]; with_reducible exact H) | (have H2_ := (Option.bind_some _ _).symm.trans H; rw [hy159]; with_reducible exact H2_) | (have H2_ := (Option.bind_some _ _).symm.trans H; with_reducible exact H2_) | with_reducible exact H | (rw [hy159]; exact H) | exact H
                              have Ny159 := Aside0.mk hy159; clear hy159; have H' := Aside0.mk H; clear H; have p155 : 0 ≤ ((ji23) : Int) := of_decide_eq_true (by exact pz8); have q155 : (ji23) < (L_t150.length : Int) := of_decide_eq_true (by exact pz8); obtain ⟨ad155, e155, hx155_0⟩ := Kd.at_int HR151.out (ji23) p155 q155; cases e155
                              replace hx155_0 := (HB.out.cell (World.block_lt_of_cell? w _ hx155_0)).trans hx155_0; replace p155 := eq_true p155; replace q155 := eq_true q155; have p48 : 0 ≤ (x50_2 : Int) := of_decide_eq_true (by exact pz8); have q48 : (x50_2 : Int) < ((x10_2.length : Int) : Int) := of_decide_eq_true (by exact pz8); obtain ⟨go48, co48, eo48, gb48, gl48, cl48, HG48⟩ := Kd.R_form HO_10.out (by omega); (first | cases eo48 | (injection eo48 with ea_ en_ ec_; (first | subst ea_ | (injection ea_ with ea_; subst ea_)); subst ec_; clear en_))
                              have GB48 := Aside0.mk gb48; have GG48 := Aside0.mk HG48; clear gb48 gl48 HG48; obtain ⟨hx48_0, hf48_0⟩ := Kd.R_celln 0 HO_10.out (x50_2 : Int) p48 q48; replace p48 := eq_true p48; replace q48 := eq_true q48; have HP49 := Kd.R_putg HO_10.out (x50_2 : Int) ji28; go_wp2_with (first | ((with_reducible refine gate_store (t := 24) (p := 87) rfl ?_); refine store_event (t := 24) (p := 87) (v := ?vo_w50) (w1 := (wr.setCell ⟨go48, (x50_2 : Int).toNat, none⟩ (.int .u64 ji28))) ?hg ?ho ?hn ?hr ?_; (case ho => rfl); (case hg => rfl); (case hn => rfl); (case hr => first | (go_simp; done) | (go_simp; rfl)); intro w50 hw; have hg : wr.grownBy w50 (some go48) := (by rw [hw]; exact HP49.2); have hp_ : Kd.R (Kd.int .u64) 24 w50 w.heap.size (fun k_ => (w.heap.size ≤ k_)) (.slice (some ⟨go48, 0, none⟩) x10_2.length co21) y159 := (by rw [hw, Ny159.out]; exact HP49.1); clear HP49; have n0_ := Aside0.mk (hp_); have n1_ := Aside0.mk ((by rw [hw]; exact below_set (HB.out) GB48.out : Below w.heap.size w w50)); clear HO_10; clear HB; have HO_10 := n0_; have HB := n1_; clear n0_ n1_; clear hg hw hp_)); (try simp only [← hl10_2])
                              (try simp only [← hji33])
                              (try simp only [← hji31])
                              (try simp only [← hji28])
                              (try simp only [← hji26])
                              (try simp only [← hji23])
                              go_roundg k2
                              case measure => have := HJ5.out; have := HK2.out; omega
                              case rel => exact ⟨(y159), (wrap64 (x50_2 + 1)), (by exact pz3), (by first | exact H' | ((try rw [hji33]); (try rw [hji31]); (try rw [hji28]); (try rw [hji26]); (try rw [hji23]); exact H')), ⟨by have := HJ5.out; have := HK2.out; omega⟩, ⟨by exact phCx5_5⟩, ⟨by exact pz1⟩⟩
                            rw [if_neg c47] at H; exact absurd H (by simp)
                          rw [if_neg c46] at H; exact absurd H (by simp)
                        rw [if_neg c27] at H; exact absurd H (by simp)
                      rw [if_neg c25] at H; exact absurd H (by simp)
                    rw [if_neg c24] at H; exact absurd H (by simp)
                  rw [if_neg c22] at H; have c22b0 : decide (x50_2 < (y152.length : Int)) = false := decide_eq_false c22; (try (have c22b9 := c22b0; first | rw [hl10_2] at c22b9 | rw [← hl10_2] at c22b9)); clear c22; replace H := Option.bind_eq_some_iff.mp H; obtain ⟨⟨t160, t163⟩, A510, H⟩ := H; (try dsimp only at H); have A51 := Aside0.mk A510; clear A510; simp only [Option.some.injEq, Prod.mk.injEq] at H; obtain ⟨rfl, rfl, rfl⟩ := H; go_wp2_with (first | ((with_reducible refine gate_callee (f := 102) rfl ?_); refine goesL_ (some 91) rfl rfl Tryz.func102 (by kernel_rfl) rfl #[.slice Ao21 x10_2.length co21] rfl (by exact pz4) ?_; (with_reducible refine (nat_cut.calls k2 (fun k_ => some k_ = (.slice Ao21 x10_2.length co21 : Value).ownBlock) _ _ x10_2 t160 t163 _ ?side1 A51.out).mono ?_); (case side1 => exact Kd.R_V (Kd.R_tight rfl (HO_10.out))); rintro e w52 ⟨v161, rfl, ho0, hb⟩; refine ⟨_, rfl, ?_⟩; have n0_ := Aside0.mk (Kd.R_below (by (with_reducible repeat (first | apply Kd.R_alloc | apply Kd.R_drewN | apply Kd.R_drew)); exact HO_10.out) hb); have n1_ := Aside0.mk (Kd.V_lower (Kd.V_mono (ok' := fun k_ => (w.heap.size ≤ k_)) ho0 (fun k_ hk_ => Or.elim hk_ (fun hs_ => ((HO_10.out).1 k_ hs_.symm)) (fun hn_ => (Nat.le_trans (below_size (by exact pz1)) hn_)))) (below_size (by exact pz1))); have n2_ := Aside0.mk (below_step (by exact pz1) hb); clear HO_10; clear HB; have HO_10 := n0_; have HO162 := n1_; have HB := n2_; clear n0_ n1_ n2_; (try clear hb); (try clear hb2); (try clear hk); (try clear hi); (try clear ho0))); go_ret3
                  exact ⟨_, by first | rfl | (simp [errW_none, errW_some] <;> rfl) | (simp only [append_nothing]; done) | (simp only [append_nothing]; rfl) | (simp only [← hji15]; first | rfl | (simp [errW_none, errW_some] <;> rfl)) | (simp [*, errW_none, errW_some] <;> rfl), by (with_reducible repeat (first | apply Kd.V_alloc | apply Kd.V_drewN | apply Kd.V_drew)); exact HO162.out, by exact pz1⟩
            rw [if_neg c17] at H; exact absurd H (by simp)
          rw [if_neg c16] at H; exact absurd H (by simp)
        rw [if_neg c12] at H; exact absurd H (by simp)
      rw [if_neg c11] at H; exact absurd H (by simp)

/-! ### bits_Add64: function 105 -/
def bits_Add64.f (a0 : Int) (a1 : Int) (a2 : Int) : Option (Int × Int) := if 0 ≤ a0 ∧ 0 ≤ a1 ∧ 0 ≤ a2 ∧ a2 ≤ 1 then some ((a0 + a1 + a2) % 18446744073709551616, (a0 + a1 + a2) / 18446744073709551616) else none
theorem bits_Add64.calls (a0 : Int) (a1 : Int) (a2 : Int) (r1 : Int) (r2 : Int) (w : World) (h : bits_Add64.f a0 a1 a2 = some (r1, r2)) :
    ExtRun Tryz.prog 105 #[.int .u64 a0, .int .u64 a1, .int .u64 a2] w fun e w' => e = .returned (.tuple #[.int .u64 r1, .int .u64 r2]) ∧ Drawn0 w w' := by
  unfold bits_Add64.f at h; split at h
  · rename_i h0
    cases h
    have hc := Tryz.bits_Add64 a0.toNat a1.toNat a2.toNat (by omega) w; have e0 : ((a0.toNat : Nat) : Int) = a0 := by omega
    have e1 : ((a1.toNat : Nat) : Int) = a1 := by omega
    have e2 : ((a2.toNat : Nat) : Int) = a2 := by omega
    have e3 : (((a0.toNat + a1.toNat + a2.toNat) % 18446744073709551616 : Nat) : Int) = (a0 + a1 + a2) % 18446744073709551616 := by omega
    have e4 : (((a0.toNat + a1.toNat + a2.toNat) / 18446744073709551616 : Nat) : Int) = (a0 + a1 + a2) / 18446744073709551616 := by omega
    rw [e0, e1, e2, e3, e4] at hc; exact ⟨_, hc, rfl, ⟨0, rfl⟩⟩
  cases h

end Go.Proofs.YtgbjojokjekmhaaGreatDoor.PXC
