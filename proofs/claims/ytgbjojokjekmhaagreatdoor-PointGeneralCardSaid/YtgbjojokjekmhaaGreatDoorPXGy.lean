/- The machine's side of a law, printed by a program of this session out of the translation; conditions: none. -/
import Derived.Test.YtgbjojokjekmhaaGreatDoorPXCx0
import Derived.Test.YtgbjojokjekmhaaGreatDoorPXCx1
import Derived.Test.YtgbjojokjekmhaaGreatDoorPXCx2
import Derived.Test.YtgbjojokjekmhaaGreatDoorPXCx3
import Derived.Test.YtgbjojokjekmhaaGreatDoorPXCx4
import Derived.Test.YtgbjojokjekmhaaGreatDoorPXCx5
import Derived.Test.YtgbjojokjekmhaaGreatDoorPXCx6
import Derived.Test.YtgbjojokjekmhaaGreatDoorPXCx7
import Derived.Test.YtgbjojokjekmhaaGreatDoorPXCx8D
import Derived.Test.YtgbjojokjekmhaaGreatDoorPXCx8
import Derived.Test.YtgbjojokjekmhaaGreatDoorPXCx9
import Derived.Test.YtgbjojokjekmhaaGreatDoorPXCx10
import Derived.Test.YtgbjojokjekmhaaGreatDoorPXCx11
import Derived.Test.YtgbjojokjekmhaaGreatDoorPXCx12
import Derived.Test.YtgbjojokjekmhaaGreatDoorPXCx13
import Derived.Test.YtgbjojokjekmhaaGreatDoorPXDy
namespace Go.Proofs.YtgbjojokjekmhaaGreatDoor.PXG
open Go.Proofs.YtgbjojokjekmhaaGreatDoor Go.Proofs.YtgbjojokjekmhaaGreatDoor.PXC Go.Proofs.YtgbjojokjekmhaaGreatDoor.PXD
open Go.RowKit Go.Proofs.YtgbjojokjekmhaaGreatDoorW.PrintWords Go.Proofs.YtgbjojokjekmhaaGreatDoorW.PrintLast Go.Proofs.YtgbjojokjekmhaaGreatDoorW.PrintMore
attribute [local go_sem] max2_int min2_int max_two min_two max_three min_three max_four min_four   -- for this text's walks alone
set_option linter.unusedVariables false
set_option linter.unusedSimpArgs false


/-! ### abacuslaw15_without: function 24 -/
mutual
def abacuslaw15_without.j2 : Nat → ByteArray → Int → Bool → Option (ByteArray)
  | 0, _, _, _ => none
  | k + 1, x0, x3, x4 => abacuslaw15_without.l1 k x0 x3 x4 x3
def abacuslaw15_without.l1 : Nat → ByteArray → Int → Bool → Int → Option (ByteArray)
  | 0, _, _, _, _ => none
  | k + 1, x0, x3, x4, x6 => if x4 = true then (if x6 > 0 then (if 0 ≤ (wrap64 (x6 - 1)) then (if (wrap64 (x6 - 1)) < (x0.size : Int) then (if (bt x0 (wrap64 (x6 - 1))) = 48 then (abacuslaw15_without.l1 k x0 x3 x4 (wrap64 (x6 - 1))) else (if (bt x0 (wrap64 (x6 - 1))) = 46 then (if (wrap64 (x6 - 1)) ≤ (x0.size : Int) then (if 0 ≤ x3 then (if x3 ≤ (x0.size : Int) then (if (x0.extract 0 ((wrap64 (x6 - 1)) : Int).toNat).size + (x0.extract (x3 : Int).toNat x0.size).size ≤ 9223372036854775807 then (some ((x0.extract 0 ((wrap64 (x6 - 1)) : Int).toNat) ++ (x0.extract (x3 : Int).toNat x0.size))) else (none)) else (none)) else (none)) else (none)) else (if 0 ≤ x6 then (if x6 ≤ (x0.size : Int) then (if 0 ≤ x3 then (if x3 ≤ (x0.size : Int) then (if (x0.extract 0 (x6 : Int).toNat).size + (x0.extract (x3 : Int).toNat x0.size).size ≤ 9223372036854775807 then (some ((x0.extract 0 (x6 : Int).toNat) ++ (x0.extract (x3 : Int).toNat x0.size))) else (none)) else (none)) else (none)) else (none)) else (none)))) else (none)) else (none)) else (if 0 ≤ x6 then (if x6 ≤ (x0.size : Int) then (if 0 ≤ x3 then (if x3 ≤ (x0.size : Int) then (if (x0.extract 0 (x6 : Int).toNat).size + (x0.extract (x3 : Int).toNat x0.size).size ≤ 9223372036854775807 then (some ((x0.extract 0 (x6 : Int).toNat) ++ (x0.extract (x3 : Int).toNat x0.size))) else (none)) else (none)) else (none)) else (none)) else (none))) else (if 0 ≤ x6 then (if x6 ≤ (x0.size : Int) then (if 0 ≤ x3 then (if x3 ≤ (x0.size : Int) then (if (x0.extract 0 (x6 : Int).toNat).size + (x0.extract (x3 : Int).toNat x0.size).size ≤ 9223372036854775807 then (some ((x0.extract 0 (x6 : Int).toNat) ++ (x0.extract (x3 : Int).toNat x0.size))) else (none)) else (none)) else (none)) else (none)) else (none))
def abacuslaw15_without.l0 : Nat → ByteArray → Int → Bool → Int → Option (ByteArray)
  | 0, _, _, _, _ => none
  | k + 1, x0, x3, x4, x5 => if x5 < (x0.size : Int) then (if 0 ≤ x5 then (if (bt x0 x5) = 101 then (abacuslaw15_without.j1 k x0 x3 x4 x5 true) else (abacuslaw15_without.j1 k x0 x3 x4 x5 ((bt x0 x5) == 69))) else (none)) else (abacuslaw15_without.j2 k x0 x3 x4)
def abacuslaw15_without.j1 : Nat → ByteArray → Int → Bool → Int → Bool → Option (ByteArray)
  | 0, _, _, _, _, _ => none
  | k + 1, x0, x3, x4, x5, x24 => if x24 = true then (abacuslaw15_without.j2 k x0 x5 x4) else (if 0 ≤ x5 then (if x5 < (x0.size : Int) then (if (bt x0 x5) = 46 then (abacuslaw15_without.l0 k x0 x3 true (wrap64 (x5 + 1))) else (abacuslaw15_without.l0 k x0 x3 x4 (wrap64 (x5 + 1)))) else (none)) else (none))
end
def abacuslaw15_without.f (k : Nat) (a0 : ByteArray) : Option (ByteArray) := abacuslaw15_without.l0 k a0 (a0.size : Int) false 0
theorem abacuslaw15_without.mono_l : ∀ k, (∀ y0 y1 y2, LeO (abacuslaw15_without.j2 k y0 y1 y2) (abacuslaw15_without.j2 (k + 1) y0 y1 y2)) ∧ (∀ y0 y1 y2 y3, LeO (abacuslaw15_without.l1 k y0 y1 y2 y3) (abacuslaw15_without.l1 (k + 1) y0 y1 y2 y3)) ∧ (∀ y0 y1 y2 y3, LeO (abacuslaw15_without.l0 k y0 y1 y2 y3) (abacuslaw15_without.l0 (k + 1) y0 y1 y2 y3)) ∧ (∀ y0 y1 y2 y3 y4, LeO (abacuslaw15_without.j1 k y0 y1 y2 y3 y4) (abacuslaw15_without.j1 (k + 1) y0 y1 y2 y3 y4))
  | 0 => ⟨fun _ _ _ r h => by simp [abacuslaw15_without.j2] at h, fun _ _ _ _ r h => by simp [abacuslaw15_without.l1] at h, fun _ _ _ _ r h => by simp [abacuslaw15_without.l0] at h, fun _ _ _ _ _ r h => by simp [abacuslaw15_without.j1] at h⟩
  | k + 1 => by
    obtain ⟨ih0, ih1, ih2, ih3⟩ := abacuslaw15_without.mono_l k
    refine ⟨?_, ?_, ?_, ?_⟩
    · intro y0 y1 y2
      unfold abacuslaw15_without.j2
      repeat' first
      | (with_reducible exact ih0 _ _ _)
      | (with_reducible exact ih1 _ _ _ _)
      | (with_reducible exact ih2 _ _ _ _)
      | (with_reducible exact ih3 _ _ _ _ _)
      | (with_reducible exact LeO.refl _)
      | (with_reducible exact LeO.none _)
      | (with_reducible refine LeO.ite ?_ ?_)
      | (with_reducible refine LeO.bind ?_ (fun _ => ?_))
      | exact ih0 _ _ _
      | exact ih1 _ _ _ _
      | exact ih2 _ _ _ _
      | exact ih3 _ _ _ _ _
      | exact LeO.none _
      | refine LeO.ite ?_ ?_
      | refine LeO.bind ?_ (fun _ => ?_)
    · intro y0 y1 y2 y3
      unfold abacuslaw15_without.l1
      repeat' first
      | (with_reducible exact ih0 _ _ _)
      | (with_reducible exact ih1 _ _ _ _)
      | (with_reducible exact ih2 _ _ _ _)
      | (with_reducible exact ih3 _ _ _ _ _)
      | (with_reducible exact LeO.refl _)
      | (with_reducible exact LeO.none _)
      | (with_reducible refine LeO.ite ?_ ?_)
      | (with_reducible refine LeO.bind ?_ (fun _ => ?_))
      | exact ih0 _ _ _
      | exact ih1 _ _ _ _
      | exact ih2 _ _ _ _
      | exact ih3 _ _ _ _ _
      | exact LeO.none _
      | refine LeO.ite ?_ ?_
      | refine LeO.bind ?_ (fun _ => ?_)
    · intro y0 y1 y2 y3
      unfold abacuslaw15_without.l0
      repeat' first
      | (with_reducible exact ih0 _ _ _)
      | (with_reducible exact ih1 _ _ _ _)
      | (with_reducible exact ih2 _ _ _ _)
      | (with_reducible exact ih3 _ _ _ _ _)
      | (with_reducible exact LeO.refl _)
      | (with_reducible exact LeO.none _)
      | (with_reducible refine LeO.ite ?_ ?_)
      | (with_reducible refine LeO.bind ?_ (fun _ => ?_))
      | exact ih0 _ _ _
      | exact ih1 _ _ _ _
      | exact ih2 _ _ _ _
      | exact ih3 _ _ _ _ _
      | exact LeO.none _
      | refine LeO.ite ?_ ?_
      | refine LeO.bind ?_ (fun _ => ?_)
    · intro y0 y1 y2 y3 y4
      unfold abacuslaw15_without.j1
      repeat' first
      | (with_reducible exact ih0 _ _ _)
      | (with_reducible exact ih1 _ _ _ _)
      | (with_reducible exact ih2 _ _ _ _)
      | (with_reducible exact ih3 _ _ _ _ _)
      | (with_reducible exact LeO.refl _)
      | (with_reducible exact LeO.none _)
      | (with_reducible refine LeO.ite ?_ ?_)
      | (with_reducible refine LeO.bind ?_ (fun _ => ?_))
      | exact ih0 _ _ _
      | exact ih1 _ _ _ _
      | exact ih2 _ _ _ _
      | exact ih3 _ _ _ _ _
      | exact LeO.none _
      | refine LeO.ite ?_ ?_
      | refine LeO.bind ?_ (fun _ => ?_)
theorem abacuslaw15_without.mono : ∀ a0 k, LeO (abacuslaw15_without.f k a0) (abacuslaw15_without.f (k + 1) a0) := by
  intro a0 k; obtain ⟨ih0, ih1, ih2, ih3⟩ := abacuslaw15_without.mono_l k; unfold abacuslaw15_without.f; repeat' first
      | (with_reducible exact ih0 _ _ _)
      | (with_reducible exact ih1 _ _ _ _)
      | (with_reducible exact ih2 _ _ _ _)
      | (with_reducible exact ih3 _ _ _ _ _)
      | (with_reducible exact LeO.refl _)
      | (with_reducible exact LeO.none _)
      | (with_reducible refine LeO.ite ?_ ?_)
      | (with_reducible refine LeO.bind ?_ (fun _ => ?_))
      | exact ih0 _ _ _
      | exact ih1 _ _ _ _
      | exact ih2 _ _ _ _
      | exact ih3 _ _ _ _ _
      | exact LeO.none _
      | refine LeO.ite ?_ ?_
      | refine LeO.bind ?_ (fun _ => ?_)
theorem abacuslaw15_without.w1 {P : Prop} (h : P := by
  go_wp2; (repeat (go_quiet (fail); try go_wp2)); go_ret; exact ⟨by first | rfl | (simp; done) | (simp only [← hji16] <;> (first | rfl | simp)) | (simp [*]; done), by exact pz7⟩) : P := h
theorem abacuslaw15_without.w2 {P : Prop} (h : P := by
  go_wp2; (repeat (go_quiet (fail); try go_wp2)); go_ret; exact ⟨by exact pz3, by exact pz7⟩) : P := h
set_option maxHeartbeats 8000000 in
set_option maxRecDepth 100000 in
theorem abacuslaw15_without.calls (k : Nat) (a0 : ByteArray) (r : ByteArray) (w : World) (h : abacuslaw15_without.f k a0 = some r) (HG : Aside0 (GW w) := by exact pz5) :
    Calls Tryz.prog 24 #[.string a0] w fun e w' => e = .returned (.string r) ∧ Drawn0 w w' := by
  have H : (abacuslaw15_without.l0 k a0 (a0.size : Int) false 0) = some r := h; clear h; have HC2 := Aside0.mk H; clear H; go_enter Tryz.func24, Tryz.ntmps24; go_upto_block 0 with (fail)
  (repeat (go_quiet (fail); go_upto_block 0 with (fail))); go_cut [3, 4] (fun v3 v4 wc => ∃ (kq : Nat) (x3_1 : Int) (x4_1 : Bool), v3 = .int .i64 x3_1 ∧ v4 = .bool x4_1 ∧ Aside0 (abacuslaw15_without.j2 kq a0 x3_1 x4_1 = some r) ∧ Aside0 (kq ≤ k) ∧ Drawn0 w wc)
  case first =>
    have H := HC2.out; clear HC2; have H' := Aside0.mk H; clear H; go_wp2; (repeat (go_quiet (fail); try go_wp2)); go_loopg [3, 4, 5] k (fun kq v3 v4 v5 w' => ∃ (x3_1 : Int) (x4_1 : Bool) (x5_1 : Int), v3 = .int .i64 x3_1 ∧ v4 = .bool x4_1 ∧ v5 = .int .i64 x5_1 ∧ Aside0 (abacuslaw15_without.l0 kq a0 x3_1 x4_1 x5_1 = some r) ∧ Aside0 (kq ≤ k) ∧ Drawn0 w w')
    case atStart => exact ⟨((a0.size : Int)), (false), (0), (by exact pz3), (by exact pz3), (by exact pz3), H', ⟨Nat.le_refl _⟩, by exact pz7⟩
    case round =>
      clear H'; (try clear c2); (try clear p2); obtain ⟨x3_1, x4_1, x5_1, rfl, rfl, rfl, HA, HK1, ⟨m1, rfl⟩⟩ := hrel; cases gk with
      | zero => exact absurd HA.out (by simp [abacuslaw15_without.l0])
      | succ k1 =>
        have H := HA.out; clear HA; simp only [abacuslaw15_without.l0] at H; by_cases c3 : x5_1 < (a0.size : Int)
        · rw [if_pos c3] at H
          have c3b0 : decide (x5_1 < (a0.size : Int)) = true := decide_eq_true c3; clear c3; (first | rw [c3b0] | (simp only [i64_w, i32_w]; rw [c3b0]) | skip)
          have HC4 := Aside0.mk H; clear H; go_upto_region 6 with (fail)
          (repeat (go_quiet (fail); go_upto_region 6 with (fail))); go_cut [24] (fun v24 wc => ∃ (kq : Nat) (x24_3 : Bool), v24 = .bool x24_3 ∧ Aside0 (abacuslaw15_without.j1 kq a0 x3_1 x4_1 x5_1 x24_3 = some r) ∧ Aside0 (kq ≤ k1) ∧ Drawn0 w wc)
          case first =>
            have H := HC4.out; clear HC4; by_cases c5 : 0 ≤ x5_1
            · rw [if_pos c5] at H
              have c5b0 : decide (0 ≤ x5_1) = true := decide_eq_true c5; clear c5; (first | rw [c5b0] | (simp only [i64_w, i32_w]; rw [c5b0]) | skip)
              by_cases c7 : (bt a0 x5_1) = 101
              · rw [if_pos c7] at H
                have c7b0 : ((bt a0 x5_1) == 101) = true := beq_iff_eq.mpr c7; have c7b1 : ((bt a0 x5_1) != 101) = false := bne_eq_false_iff_eq.mpr c7; clear c7; have H' := Aside0.mk H; clear H; have p6 : 0 ≤ (x5_1 : Int) := of_decide_eq_true (by exact pz8); have q6 : x5_1 < (a0.size : Int) := of_decide_eq_true (by exact pz8); have hx6 := bt_at a0 x5_1; replace p6 := eq_true p6; replace q6 := eq_true q6; go_wp2; (repeat (go_quiet (fail); try go_wp2)); go_meet
                case rel => exact ⟨_, (true), (by exact pz3), H', ⟨by have := HK1.out; first | omega | exact Nat.le_refl _⟩, by exact pz7⟩
              rw [if_neg c7] at H; have c7b0 : ((bt a0 x5_1) == 101) = false := beq_eq_false_iff_ne.mpr c7; have c7b1 : ((bt a0 x5_1) != 101) = true := bne_iff_ne.mpr c7; have H' := Aside0.mk H; clear H; have p6 : 0 ≤ (x5_1 : Int) := of_decide_eq_true (by exact pz8); have q6 : x5_1 < (a0.size : Int) := of_decide_eq_true (by exact pz8); have hx6 := bt_at a0 x5_1; replace p6 := eq_true p6; replace q6 := eq_true q6; have p8 : 0 ≤ (x5_1 : Int) := of_decide_eq_true (by exact pz8); have q8 : x5_1 < (a0.size : Int) := of_decide_eq_true (by exact pz8); have hx8 := bt_at a0 x5_1; replace p8 := eq_true p8; replace q8 := eq_true q8; go_wp2; (repeat (go_quiet (fail); try go_wp2)); go_meet
              case rel => exact ⟨_, (((bt a0 x5_1) == 69)), (by exact pz3), H', ⟨by have := HK1.out; first | omega | exact Nat.le_refl _⟩, by exact pz7⟩
            rw [if_neg c5] at H; exact absurd H (by simp)
          case rest =>
            clear HC4; (try clear c2); (try clear p2); (try clear c3); (try clear c3b0); (try clear c5); (try clear c5b0); (try clear p6); (try clear q6); (try clear hx6); (try clear c7); (try clear c7b0); (try clear c7b1); (try clear p8); (try clear q8); (try clear hx8); (try clear p2); (try clear p6); (try clear p8); (try clear q6); (try clear q8); obtain ⟨kq, x24_3, rfl, HA, HJ3, ⟨mc3, rfl⟩⟩ := hcut; cases kq with
            | zero => exact absurd HA.out (by simp [abacuslaw15_without.j1])
            | succ kj3 =>
              have H := HA.out; clear HA; simp only [abacuslaw15_without.j1] at H; by_cases c9 : x24_3 = true
              · subst c9
                have H1 : (abacuslaw15_without.j2 kj3 a0 x5_1 x4_1) = some r := by rw [if_pos rfl] at H; exact H
                clear H; have H := H1; clear H1; have H' := Aside0.mk H; clear H; go_wp2; (repeat (go_quiet (fail); try go_wp2)); go_meet
                case rel => exact ⟨_, (x5_1), (x4_1), (by exact pz3), (by exact pz3), H', ⟨by have := HK1.out; have := HJ3.out; first | omega | exact Nat.le_refl _⟩, by exact pz7⟩
              replace c9 := Bool.eq_false_iff.mpr c9; subst c9; have H1 : (if 0 ≤ x5_1 then (if x5_1 < (a0.size : Int) then (if (bt a0 x5_1) = 46 then (abacuslaw15_without.l0 kj3 a0 x3_1 true (wrap64 (x5_1 + 1))) else (abacuslaw15_without.l0 kj3 a0 x3_1 x4_1 (wrap64 (x5_1 + 1)))) else (none)) else (none)) = some r := by rw [if_neg (show ¬ (false = true) by decide)] at H; exact H
              clear H; have H := H1; clear H1; by_cases c10 : 0 ≤ x5_1
              · rw [if_pos c10] at H
                have c10b0 : decide (0 ≤ x5_1) = true := decide_eq_true c10; clear c10; by_cases c11 : x5_1 < (a0.size : Int)
                · rw [if_pos c11] at H
                  have c11b0 : decide (x5_1 < (a0.size : Int)) = true := decide_eq_true c11; clear c11; by_cases c13 : (bt a0 x5_1) = 46
                  · rw [if_pos c13] at H
                    have c13b0 : ((bt a0 x5_1) == 46) = true := beq_iff_eq.mpr c13; have c13b1 : ((bt a0 x5_1) != 46) = false := bne_eq_false_iff_eq.mpr c13; clear c13; have H' := Aside0.mk H; clear H; have p12 : 0 ≤ (x5_1 : Int) := of_decide_eq_true (by exact pz8); have q12 : x5_1 < (a0.size : Int) := of_decide_eq_true (by exact pz8); have hx12 := bt_at a0 x5_1; replace p12 := eq_true p12; replace q12 := eq_true q12; go_wp2; (repeat (go_quiet (fail); try go_wp2)); go_roundg kj3
                    case measure => have := HK1.out; have := HJ3.out; omega
                    case rel => exact ⟨(x3_1), (true), (wrap64 (x5_1 + 1)), (by exact pz3), (by exact pz3), (by exact pz3), H', ⟨by have := HK1.out; have := HJ3.out; omega⟩, by exact pz7⟩
                  rw [if_neg c13] at H; have c13b0 : ((bt a0 x5_1) == 46) = false := beq_eq_false_iff_ne.mpr c13; have c13b1 : ((bt a0 x5_1) != 46) = true := bne_iff_ne.mpr c13; have H' := Aside0.mk H; clear H; have p12 : 0 ≤ (x5_1 : Int) := of_decide_eq_true (by exact pz8); have q12 : x5_1 < (a0.size : Int) := of_decide_eq_true (by exact pz8); have hx12 := bt_at a0 x5_1; replace p12 := eq_true p12; replace q12 := eq_true q12; go_wp2; (repeat (go_quiet (fail); try go_wp2)); go_roundg kj3
                  case measure => have := HK1.out; have := HJ3.out; omega
                  case rel => exact ⟨(x3_1), (x4_1), (wrap64 (x5_1 + 1)), (by exact pz3), (by exact pz3), (by exact pz3), H', ⟨by have := HK1.out; have := HJ3.out; omega⟩, by exact pz7⟩
                rw [if_neg c11] at H; exact absurd H (by simp)
              rw [if_neg c10] at H; exact absurd H (by simp)
        rw [if_neg c3] at H; have c3b0 : decide (x5_1 < (a0.size : Int)) = false := decide_eq_false c3; clear c3; (first | rw [c3b0] | (simp only [i64_w, i32_w]; rw [c3b0]) | skip)
        have H' := Aside0.mk H; clear H; go_wp2; (repeat (go_quiet (fail); try go_wp2)); go_meet
        case rel => exact ⟨_, (x3_1), (x4_1), (by exact pz3), (by exact pz3), H', ⟨by have := HK1.out; first | omega | exact Nat.le_refl _⟩, by exact pz7⟩
  case rest =>
    clear HC2; (try clear c1); (try clear p1); (try clear q1); (try clear hx1); (try clear c2); (try clear p2); (try clear c3); (try clear c3b0); (try clear c5); (try clear c5b0); (try clear p6); (try clear q6); (try clear hx6); (try clear c7); (try clear c7b0); (try clear c7b1); (try clear p8); (try clear q8); (try clear hx8); (try clear c9); (try clear c10); (try clear c10b0); (try clear c11); (try clear c11b0); (try clear p12); (try clear q12); (try clear hx12); (try clear c13); (try clear c13b0); (try clear c13b1); (try clear p12); (try clear p2); (try clear p6); (try clear p8); (try clear q12); (try clear q6); (try clear q8); obtain ⟨kq, x3_1, x4_1, rfl, rfl, HA, HJ1, ⟨mc1, rfl⟩⟩ := hcut; cases kq with
    | zero => exact absurd HA.out (by simp [abacuslaw15_without.j2])
    | succ kj1 =>
      have H := HA.out; clear HA; simp only [abacuslaw15_without.j2] at H; have H' := Aside0.mk H; clear H; go_wp2; (repeat (go_quiet (fail); try go_wp2)); go_loopg [6] kj1 (fun kq v6 w' => ∃ (x6_2 : Int), v6 = .int .i64 x6_2 ∧ Aside0 (abacuslaw15_without.l1 kq a0 x3_1 x4_1 x6_2 = some r) ∧ Aside0 (kq ≤ kj1) ∧ Drawn0 w w')
      case atStart => exact ⟨(x3_1), (by exact pz3), H', ⟨Nat.le_refl _⟩, by exact pz7⟩
      case round =>
        clear H'; (try clear c1); (try clear p1); (try clear q1); (try clear hx1); (try clear c2); (try clear p2); (try clear c3); (try clear c3b0); (try clear c5); (try clear c5b0); (try clear p6); (try clear q6); (try clear hx6); (try clear c7); (try clear c7b0); (try clear c7b1); (try clear p8); (try clear q8); (try clear hx8); (try clear c9); (try clear c10); (try clear c10b0); (try clear c11); (try clear c11b0); (try clear p12); (try clear q12); (try clear hx12); (try clear c13); (try clear c13b0); (try clear c13b1); (try clear p1); (try clear p12); (try clear p2); (try clear p6); (try clear p8); (try clear q1); (try clear q12); (try clear q6); (try clear q8); obtain ⟨x6_2, rfl, HA, HK2, ⟨m2, rfl⟩⟩ := hrel; cases gk with
        | zero => exact absurd HA.out (by simp [abacuslaw15_without.l1])
        | succ k2 =>
          have H := HA.out; clear HA; simp only [abacuslaw15_without.l1] at H; by_cases c14 : x4_1 = true
          · subst c14
            have H1 : (if x6_2 > 0 then (if 0 ≤ (wrap64 (x6_2 - 1)) then (if (wrap64 (x6_2 - 1)) < (a0.size : Int) then (if (bt a0 (wrap64 (x6_2 - 1))) = 48 then (abacuslaw15_without.l1 k2 a0 x3_1 true (wrap64 (x6_2 - 1))) else (if (bt a0 (wrap64 (x6_2 - 1))) = 46 then (if (wrap64 (x6_2 - 1)) ≤ (a0.size : Int) then (if 0 ≤ x3_1 then (if x3_1 ≤ (a0.size : Int) then (if (a0.extract 0 ((wrap64 (x6_2 - 1)) : Int).toNat).size + (a0.extract (x3_1 : Int).toNat a0.size).size ≤ 9223372036854775807 then (some ((a0.extract 0 ((wrap64 (x6_2 - 1)) : Int).toNat) ++ (a0.extract (x3_1 : Int).toNat a0.size))) else (none)) else (none)) else (none)) else (none)) else (if 0 ≤ x6_2 then (if x6_2 ≤ (a0.size : Int) then (if 0 ≤ x3_1 then (if x3_1 ≤ (a0.size : Int) then (if (a0.extract 0 (x6_2 : Int).toNat).size + (a0.extract (x3_1 : Int).toNat a0.size).size ≤ 9223372036854775807 then (some ((a0.extract 0 (x6_2 : Int).toNat) ++ (a0.extract (x3_1 : Int).toNat a0.size))) else (none)) else (none)) else (none)) else (none)) else (none)))) else (none)) else (none)) else (if 0 ≤ x6_2 then (if x6_2 ≤ (a0.size : Int) then (if 0 ≤ x3_1 then (if x3_1 ≤ (a0.size : Int) then (if (a0.extract 0 (x6_2 : Int).toNat).size + (a0.extract (x3_1 : Int).toNat a0.size).size ≤ 9223372036854775807 then (some ((a0.extract 0 (x6_2 : Int).toNat) ++ (a0.extract (x3_1 : Int).toNat a0.size))) else (none)) else (none)) else (none)) else (none)) else (none))) = some r := by rw [if_pos rfl] at H; exact H
            clear H; have H := H1; clear H1; by_cases c15 : x6_2 > 0
            · rw [if_pos c15] at H
              have c15b0 : decide (0 < x6_2) = true := decide_eq_true c15; clear c15; obtain ⟨ji16, hji16⟩ : ∃ j_ : Int, (wrap64 (x6_2 - 1)) = j_ := ⟨_, rfl⟩; replace H : (if 0 ≤ (ji16) then (if (ji16) < (a0.size : Int) then (if (bt a0 (ji16)) = 48 then (abacuslaw15_without.l1 k2 a0 x3_1 true ji16) else (if (bt a0 (ji16)) = 46 then (if (ji16) ≤ (a0.size : Int) then (if 0 ≤ x3_1 then (if x3_1 ≤ (a0.size : Int) then (if (a0.extract 0 ((ji16) : Int).toNat).size + (a0.extract (x3_1 : Int).toNat a0.size).size ≤ 9223372036854775807 then (some ((a0.extract 0 ((ji16) : Int).toNat) ++ (a0.extract (x3_1 : Int).toNat a0.size))) else (none)) else (none)) else (none)) else (none)) else (if 0 ≤ x6_2 then (if x6_2 ≤ (a0.size : Int) then (if 0 ≤ x3_1 then (if x3_1 ≤ (a0.size : Int) then (if (a0.extract 0 (x6_2 : Int).toNat).size + (a0.extract (x3_1 : Int).toNat a0.size).size ≤ 9223372036854775807 then (some ((a0.extract 0 (x6_2 : Int).toNat) ++ (a0.extract (x3_1 : Int).toNat a0.size))) else (none)) else (none)) else (none)) else (none)) else (none)))) else (none)) else (none)) = some r := by first | (rw [hji16] at H; exact H) | (simp only [hji16] at H ⊢; exact H)
              have hji16w : (IntKind.i64.wrap (x6_2 - 1)) = ji16 := (i64_w _).trans hji16; by_cases c17 : 0 ≤ (ji16)
              · rw [if_pos c17] at H
                have c17b0 : decide (0 ≤ (ji16)) = true := decide_eq_true c17; clear c17; by_cases c18 : (ji16) < (a0.size : Int)
                · rw [if_pos c18] at H
                  have c18b0 : decide ((ji16) < (a0.size : Int)) = true := decide_eq_true c18; clear c18; by_cases c20 : (bt a0 (ji16)) = 48
                  · rw [if_pos c20] at H
                    have c20b0 : ((bt a0 (ji16)) == 48) = true := beq_iff_eq.mpr c20; have c20b1 : ((bt a0 (ji16)) != 48) = false := bne_eq_false_iff_eq.mpr c20; clear c20; have H' := Aside0.mk H; clear H; have p19 : 0 ≤ ((ji16) : Int) := of_decide_eq_true (by exact pz8); have q19 : (ji16) < (a0.size : Int) := of_decide_eq_true (by exact pz8); have hx19 := bt_at a0 (ji16); replace p19 := eq_true p19; replace q19 := eq_true q19; go_wp2; (repeat (go_quiet (fail); try go_wp2)); (try simp only [← hji16])
                    go_roundg k2
                    case measure => have := HJ1.out; have := HK2.out; omega
                    case rel => exact ⟨(ji16), (by first | rfl | (simp; done) | (simp only [← hji16] <;> (first | rfl | simp)) | (simp [*]; done)), (by first | exact H' | ((try rw [hji16]); exact H')), ⟨by have := HJ1.out; have := HK2.out; omega⟩, by exact pz7⟩
                  rw [if_neg c20] at H; have c20b0 : ((bt a0 (ji16)) == 48) = false := beq_eq_false_iff_ne.mpr c20; have c20b1 : ((bt a0 (ji16)) != 48) = true := bne_iff_ne.mpr c20; by_cases c22 : (bt a0 (ji16)) = 46
                  · rw [if_pos c22] at H
                    have c22b0 : ((bt a0 (ji16)) == 46) = true := beq_iff_eq.mpr c22; have c22b1 : ((bt a0 (ji16)) != 46) = false := bne_eq_false_iff_eq.mpr c22; clear c22; have c23b0 := eq_true (of_decide_eq_true (by exact pz8) : 0 ≤ (ji16)); by_cases c24 : (ji16) ≤ (a0.size : Int)
                    · rw [if_pos c24] at H
                      have c24b0 := eq_true c24; have c24b1 : decide ((ji16) ≤ (a0.size : Int)) = true := decide_eq_true c24; clear c24; by_cases c25 : 0 ≤ x3_1
                      · rw [if_pos c25] at H
                        have c25b0 := eq_true c25; have c25b1 : decide (0 ≤ x3_1) = true := decide_eq_true c25; clear c25; by_cases c26 : x3_1 ≤ (a0.size : Int)
                        · rw [if_pos c26] at H
                          have c26b0 := eq_true c26; have c26b1 : decide (x3_1 ≤ (a0.size : Int)) = true := decide_eq_true c26; clear c26; by_cases c27 : (a0.extract 0 ((ji16) : Int).toNat).size + (a0.extract (x3_1 : Int).toNat a0.size).size ≤ 9223372036854775807
                          · rw [if_pos c27] at H
                            have c27b0 := eq_true c27; have c27b1 : decide ((a0.extract 0 ((ji16) : Int).toNat).size + (a0.extract (x3_1 : Int).toNat a0.size).size ≤ 9223372036854775807) = true := decide_eq_true c27; (try have c27b2 : (9223372036854775807 < (a0.extract 0 ((ji16) : Int).toNat).size + (a0.extract (x3_1 : Int).toNat a0.size).size) = False := eq_false (Nat.not_lt.2 c27)); (try have c27b8 := c27b2); (try simp only [ByteArray.size_append, ByteArray.size_extract, size_lit, List.size_toArray, List.length_cons, List.length_nil, Nat.reduceAdd, Nat.sub_zero, Nat.min_self] at c27b8); (try (rw [show min (ji16 : Int).toNat a0.size = (ji16 : Int).toNat from Nat.min_eq_left (Int.toNat_le.2 (of_decide_eq_true (by exact pz8)))] at c27b8)); (try (have c27b7 := c27b8; rw [Nat.add_zero] at c27b7)); (try have c27b3 := c27b2); (try simp only [ByteArray.size_append, size_lit, List.size_toArray, List.length_cons, List.length_nil, Nat.reduceAdd] at c27b3); obtain rfl := Option.some.inj H; have p19 : 0 ≤ ((ji16) : Int) := of_decide_eq_true (by exact pz8); have q19 : (ji16) < (a0.size : Int) := of_decide_eq_true (by exact pz8); have hx19 := bt_at a0 (ji16); replace p19 := eq_true p19; replace q19 := eq_true q19; have p21 : 0 ≤ ((ji16) : Int) := of_decide_eq_true (by exact pz8); have q21 : (ji16) < (a0.size : Int) := of_decide_eq_true (by exact pz8); have hx21 := bt_at a0 (ji16); replace p21 := eq_true p21; replace q21 := eq_true q21; exact abacuslaw15_without.w1
                          rw [if_neg c27] at H; exact absurd H (by simp)
                        rw [if_neg c26] at H; exact absurd H (by simp)
                      rw [if_neg c25] at H; exact absurd H (by simp)
                    rw [if_neg c24] at H; exact absurd H (by simp)
                  rw [if_neg c22] at H; have c22b0 : ((bt a0 (ji16)) == 46) = false := beq_eq_false_iff_ne.mpr c22; have c22b1 : ((bt a0 (ji16)) != 46) = true := bne_iff_ne.mpr c22; by_cases c28 : 0 ≤ x6_2
                  · rw [if_pos c28] at H
                    have c28b0 := eq_true c28; have c28b1 : decide (0 ≤ x6_2) = true := decide_eq_true c28; clear c28; by_cases c29 : x6_2 ≤ (a0.size : Int)
                    · rw [if_pos c29] at H
                      have c29b0 := eq_true c29; have c29b1 : decide (x6_2 ≤ (a0.size : Int)) = true := decide_eq_true c29; clear c29; by_cases c30 : 0 ≤ x3_1
                      · rw [if_pos c30] at H
                        have c30b0 := eq_true c30; have c30b1 : decide (0 ≤ x3_1) = true := decide_eq_true c30; clear c30; by_cases c31 : x3_1 ≤ (a0.size : Int)
                        · rw [if_pos c31] at H
                          have c31b0 := eq_true c31; have c31b1 : decide (x3_1 ≤ (a0.size : Int)) = true := decide_eq_true c31; clear c31; by_cases c32 : (a0.extract 0 (x6_2 : Int).toNat).size + (a0.extract (x3_1 : Int).toNat a0.size).size ≤ 9223372036854775807
                          · rw [if_pos c32] at H
                            have c32b0 := eq_true c32; have c32b1 : decide ((a0.extract 0 (x6_2 : Int).toNat).size + (a0.extract (x3_1 : Int).toNat a0.size).size ≤ 9223372036854775807) = true := decide_eq_true c32; (try have c32b2 : (9223372036854775807 < (a0.extract 0 (x6_2 : Int).toNat).size + (a0.extract (x3_1 : Int).toNat a0.size).size) = False := eq_false (Nat.not_lt.2 c32)); (try have c32b8 := c32b2); (try simp only [ByteArray.size_append, ByteArray.size_extract, size_lit, List.size_toArray, List.length_cons, List.length_nil, Nat.reduceAdd, Nat.sub_zero, Nat.min_self] at c32b8); (try (rw [show min (x6_2 : Int).toNat a0.size = (x6_2 : Int).toNat from Nat.min_eq_left (Int.toNat_le.2 (of_decide_eq_true (by exact pz8)))] at c32b8)); (try (have c32b7 := c32b8; rw [Nat.add_zero] at c32b7)); (try have c32b3 := c32b2); (try simp only [ByteArray.size_append, size_lit, List.size_toArray, List.length_cons, List.length_nil, Nat.reduceAdd] at c32b3); obtain rfl := Option.some.inj H; have p19 : 0 ≤ ((ji16) : Int) := of_decide_eq_true (by exact pz8); have q19 : (ji16) < (a0.size : Int) := of_decide_eq_true (by exact pz8); have hx19 := bt_at a0 (ji16); replace p19 := eq_true p19; replace q19 := eq_true q19; have p21 : 0 ≤ ((ji16) : Int) := of_decide_eq_true (by exact pz8); have q21 : (ji16) < (a0.size : Int) := of_decide_eq_true (by exact pz8); have hx21 := bt_at a0 (ji16); replace p21 := eq_true p21; replace q21 := eq_true q21; exact abacuslaw15_without.w1
                          rw [if_neg c32] at H; exact absurd H (by simp)
                        rw [if_neg c31] at H; exact absurd H (by simp)
                      rw [if_neg c30] at H; exact absurd H (by simp)
                    rw [if_neg c29] at H; exact absurd H (by simp)
                  rw [if_neg c28] at H; exact absurd H (by simp)
                rw [if_neg c18] at H; exact absurd H (by simp)
              rw [if_neg c17] at H; exact absurd H (by simp)
            rw [if_neg c15] at H; have c15b0 : decide (0 < x6_2) = false := decide_eq_false c15; clear c15; by_cases c33 : 0 ≤ x6_2
            · rw [if_pos c33] at H
              have c33b0 := eq_true c33; have c33b1 : decide (0 ≤ x6_2) = true := decide_eq_true c33; clear c33; by_cases c34 : x6_2 ≤ (a0.size : Int)
              · rw [if_pos c34] at H
                have c34b0 := eq_true c34; have c34b1 : decide (x6_2 ≤ (a0.size : Int)) = true := decide_eq_true c34; clear c34; by_cases c35 : 0 ≤ x3_1
                · rw [if_pos c35] at H
                  have c35b0 := eq_true c35; have c35b1 : decide (0 ≤ x3_1) = true := decide_eq_true c35; clear c35; by_cases c36 : x3_1 ≤ (a0.size : Int)
                  · rw [if_pos c36] at H
                    have c36b0 := eq_true c36; have c36b1 : decide (x3_1 ≤ (a0.size : Int)) = true := decide_eq_true c36; clear c36; by_cases c37 : (a0.extract 0 (x6_2 : Int).toNat).size + (a0.extract (x3_1 : Int).toNat a0.size).size ≤ 9223372036854775807
                    · rw [if_pos c37] at H
                      have c37b0 := eq_true c37; have c37b1 : decide ((a0.extract 0 (x6_2 : Int).toNat).size + (a0.extract (x3_1 : Int).toNat a0.size).size ≤ 9223372036854775807) = true := decide_eq_true c37; (try have c37b2 : (9223372036854775807 < (a0.extract 0 (x6_2 : Int).toNat).size + (a0.extract (x3_1 : Int).toNat a0.size).size) = False := eq_false (Nat.not_lt.2 c37)); (try have c37b8 := c37b2); (try simp only [ByteArray.size_append, ByteArray.size_extract, size_lit, List.size_toArray, List.length_cons, List.length_nil, Nat.reduceAdd, Nat.sub_zero, Nat.min_self] at c37b8); (try (rw [show min (x6_2 : Int).toNat a0.size = (x6_2 : Int).toNat from Nat.min_eq_left (Int.toNat_le.2 (of_decide_eq_true (by exact pz8)))] at c37b8)); (try (have c37b7 := c37b8; rw [Nat.add_zero] at c37b7)); (try have c37b3 := c37b2); (try simp only [ByteArray.size_append, size_lit, List.size_toArray, List.length_cons, List.length_nil, Nat.reduceAdd] at c37b3); obtain rfl := Option.some.inj H; exact abacuslaw15_without.w2
                    rw [if_neg c37] at H; exact absurd H (by simp)
                  rw [if_neg c36] at H; exact absurd H (by simp)
                rw [if_neg c35] at H; exact absurd H (by simp)
              rw [if_neg c34] at H; exact absurd H (by simp)
            rw [if_neg c33] at H; exact absurd H (by simp)
          replace c14 := Bool.eq_false_iff.mpr c14; subst c14; have H1 : (if 0 ≤ x6_2 then (if x6_2 ≤ (a0.size : Int) then (if 0 ≤ x3_1 then (if x3_1 ≤ (a0.size : Int) then (if (a0.extract 0 (x6_2 : Int).toNat).size + (a0.extract (x3_1 : Int).toNat a0.size).size ≤ 9223372036854775807 then (some ((a0.extract 0 (x6_2 : Int).toNat) ++ (a0.extract (x3_1 : Int).toNat a0.size))) else (none)) else (none)) else (none)) else (none)) else (none)) = some r := by rw [if_neg (show ¬ (false = true) by decide)] at H; exact H
          clear H; have H := H1; clear H1; by_cases c38 : 0 ≤ x6_2
          · rw [if_pos c38] at H
            have c38b0 := eq_true c38; have c38b1 : decide (0 ≤ x6_2) = true := decide_eq_true c38; clear c38; by_cases c39 : x6_2 ≤ (a0.size : Int)
            · rw [if_pos c39] at H
              have c39b0 := eq_true c39; have c39b1 : decide (x6_2 ≤ (a0.size : Int)) = true := decide_eq_true c39; clear c39; by_cases c40 : 0 ≤ x3_1
              · rw [if_pos c40] at H
                have c40b0 := eq_true c40; have c40b1 : decide (0 ≤ x3_1) = true := decide_eq_true c40; clear c40; by_cases c41 : x3_1 ≤ (a0.size : Int)
                · rw [if_pos c41] at H
                  have c41b0 := eq_true c41; have c41b1 : decide (x3_1 ≤ (a0.size : Int)) = true := decide_eq_true c41; clear c41; by_cases c42 : (a0.extract 0 (x6_2 : Int).toNat).size + (a0.extract (x3_1 : Int).toNat a0.size).size ≤ 9223372036854775807
                  · rw [if_pos c42] at H
                    have c42b0 := eq_true c42; have c42b1 : decide ((a0.extract 0 (x6_2 : Int).toNat).size + (a0.extract (x3_1 : Int).toNat a0.size).size ≤ 9223372036854775807) = true := decide_eq_true c42; (try have c42b2 : (9223372036854775807 < (a0.extract 0 (x6_2 : Int).toNat).size + (a0.extract (x3_1 : Int).toNat a0.size).size) = False := eq_false (Nat.not_lt.2 c42)); (try have c42b8 := c42b2); (try simp only [ByteArray.size_append, ByteArray.size_extract, size_lit, List.size_toArray, List.length_cons, List.length_nil, Nat.reduceAdd, Nat.sub_zero, Nat.min_self] at c42b8); (try (rw [show min (x6_2 : Int).toNat a0.size = (x6_2 : Int).toNat from Nat.min_eq_left (Int.toNat_le.2 (of_decide_eq_true (by exact pz8)))] at c42b8)); (try (have c42b7 := c42b8; rw [Nat.add_zero] at c42b7)); (try have c42b3 := c42b2); (try simp only [ByteArray.size_append, size_lit, List.size_toArray, List.length_cons, List.length_nil, Nat.reduceAdd] at c42b3); obtain rfl := Option.some.inj H; exact abacuslaw15_without.w2
                  rw [if_neg c42] at H; exact absurd H (by simp)
                rw [if_neg c41] at H; exact absurd H (by simp)
              rw [if_neg c40] at H; exact absurd H (by simp)
            rw [if_neg c39] at H; exact absurd H (by simp)
          rw [if_neg c38] at H; exact absurd H (by simp)

/-! ### abacuslaw15_PointGeneral: function 6 -/
mutual
def abacuslaw15_PointGeneral.j0 : Nat → Bool → Int → Int → ByteArray → Option (Bool)
  | 0, _, _, _, _ => none
  | k + 1, x1, x2, x3, x10 => if x1 = true then (abacuslaw15_PointGeneral.j1 k x1 x2 x3 x10 8) else (abacuslaw15_PointGeneral.j1 k x1 x2 x3 x10 0)
def abacuslaw15_PointGeneral.j1 : Nat → Bool → Int → Int → ByteArray → Int → Option (Bool)
  | 0, _, _, _, _, _ => none
  | k + 1, x1, x2, x3, x10, x11 => if 0 < (x10.size : Int) then ((point_Render.f k (bt x10 0) x11 0 x2 x3).bind fun bt350 => (if x2 < (-1) then (abacuslaw15_PointGeneral.j2 k x1 x2 x3 x10 x11 bt350.1 bt350.2 true) else (if x2 > 4096 then (abacuslaw15_PointGeneral.j2 k x1 x2 x3 x10 x11 bt350.1 bt350.2 true) else ((abacuslaw15_finite.f x3).bind fun t352 => (abacuslaw15_PointGeneral.j2 k x1 x2 x3 x10 x11 bt350.1 bt350.2 (!t352)))))) else (none)
def abacuslaw15_PointGeneral.j2 : Nat → Bool → Int → Int → ByteArray → Int → ByteArray → Int → Bool → Option (Bool)
  | 0, _, _, _, _, _, _, _, _ => none
  | k + 1, x1, x2, x3, x10, x11, x12, x13, x44 => if x44 = true then (if 0 < (x10.size : Int) then ((abacuslaw15_wrong.f k (bt x10 0) 0 0 x2).bind fun t353 => (some (x13 == t353))) else (none)) else (if x2 = (-1) then (abacuslaw15_PointGeneral.j3 k x1 x3 x10 x11 x12 x13 6) else (if x2 = 0 then (abacuslaw15_PointGeneral.j3 k x1 x3 x10 x11 x12 x13 1) else (abacuslaw15_PointGeneral.j3 k x1 x3 x10 x11 x12 x13 x2)))
def abacuslaw15_PointGeneral.j3 : Nat → Bool → Int → ByteArray → Int → ByteArray → Int → Int → Option (Bool)
  | 0, _, _, _, _, _, _, _ => none
  | k + 1, x1, x3, x10, x11, x12, x13, x14 => if 1 < (x10.size : Int) then ((point_Render.f k (bt x10 1) x11 0 (wrap64 (x14 - 1)) x3).bind fun bt354 => ((abacuslaw15_places.f k bt354.1).bind fun bt356 => (if bt356.2 ≥ (-4) then (abacuslaw15_PointGeneral.j4 k x1 x3 x10 x11 x12 x13 x14 bt354.1 bt354.2 bt356.2 (decide (bt356.2 < x14))) else (abacuslaw15_PointGeneral.j4 k x1 x3 x10 x11 x12 x13 x14 bt354.1 bt354.2 bt356.2 false)))) else (none)
def abacuslaw15_PointGeneral.j4 : Nat → Bool → Int → ByteArray → Int → ByteArray → Int → Int → ByteArray → Int → Int → Bool → Option (Bool)
  | 0, _, _, _, _, _, _, _, _, _, _, _ => none
  | k + 1, x1, x3, x10, x11, x12, x13, x14, x15, x16, x18, x80 => if x80 = true then (if (wrap64 ((wrap64 (x14 - 1)) - x18)) > 4096 then (some (x13 == 0)) else (if 2 < (x10.size : Int) then ((point_Render.f k (bt x10 2) x11 0 (wrap64 ((wrap64 (x14 - 1)) - x18)) x3).bind fun bt358 => (if x1 = true then (if x13 = 0 then (if bt358.2 = 0 then (some (x12.toList == bt358.1.toList)) else (some false)) else (some false)) else ((abacuslaw15_without.f k bt358.1).bind fun t360 => (if x13 = 0 then (if bt358.2 = 0 then (some (x12.toList == t360.toList)) else (some false)) else (some false))))) else (none))) else (if x1 = true then (if x13 = 0 then (if x16 = 0 then (some (x12.toList == x15.toList)) else (some false)) else (some false)) else ((abacuslaw15_without.f k x15).bind fun t361 => (if x13 = 0 then (if x16 = 0 then (some (x12.toList == t361.toList)) else (some false)) else (some false))))
end
def abacuslaw15_PointGeneral.f (k : Nat) (a0 : Bool) (a1 : Bool) (a2 : Int) (a3 : Int) : Option (Bool) := (abacuslaw15_awake.f k).bind fun t349 => (if t349 = true then (if a0 = true then (abacuslaw15_PointGeneral.j0 k a1 a2 a3 (⟨#[71, 69, 70]⟩ : ByteArray)) else (abacuslaw15_PointGeneral.j0 k a1 a2 a3 (⟨#[103, 101, 102]⟩ : ByteArray))) else (some false))
theorem abacuslaw15_PointGeneral.mono_l : ∀ k, (∀ y0 y1 y2 y3, LeO (abacuslaw15_PointGeneral.j0 k y0 y1 y2 y3) (abacuslaw15_PointGeneral.j0 (k + 1) y0 y1 y2 y3)) ∧ (∀ y0 y1 y2 y3 y4, LeO (abacuslaw15_PointGeneral.j1 k y0 y1 y2 y3 y4) (abacuslaw15_PointGeneral.j1 (k + 1) y0 y1 y2 y3 y4)) ∧ (∀ y0 y1 y2 y3 y4 y5 y6 y7, LeO (abacuslaw15_PointGeneral.j2 k y0 y1 y2 y3 y4 y5 y6 y7) (abacuslaw15_PointGeneral.j2 (k + 1) y0 y1 y2 y3 y4 y5 y6 y7)) ∧ (∀ y0 y1 y2 y3 y4 y5 y6, LeO (abacuslaw15_PointGeneral.j3 k y0 y1 y2 y3 y4 y5 y6) (abacuslaw15_PointGeneral.j3 (k + 1) y0 y1 y2 y3 y4 y5 y6)) ∧ (∀ y0 y1 y2 y3 y4 y5 y6 y7 y8 y9 y10, LeO (abacuslaw15_PointGeneral.j4 k y0 y1 y2 y3 y4 y5 y6 y7 y8 y9 y10) (abacuslaw15_PointGeneral.j4 (k + 1) y0 y1 y2 y3 y4 y5 y6 y7 y8 y9 y10))
  | 0 => ⟨fun _ _ _ _ r h => by simp [abacuslaw15_PointGeneral.j0] at h, fun _ _ _ _ _ r h => by simp [abacuslaw15_PointGeneral.j1] at h, fun _ _ _ _ _ _ _ _ r h => by simp [abacuslaw15_PointGeneral.j2] at h, fun _ _ _ _ _ _ _ r h => by simp [abacuslaw15_PointGeneral.j3] at h, fun _ _ _ _ _ _ _ _ _ _ _ r h => by simp [abacuslaw15_PointGeneral.j4] at h⟩
  | k + 1 => by
    obtain ⟨ih0, ih1, ih2, ih3, ih4⟩ := abacuslaw15_PointGeneral.mono_l k
    refine ⟨?_, ?_, ?_, ?_, ?_⟩
    · intro y0 y1 y2 y3
      unfold abacuslaw15_PointGeneral.j0
      repeat' first
      | (with_reducible exact ih0 _ _ _ _)
      | (with_reducible exact ih1 _ _ _ _ _)
      | (with_reducible exact ih2 _ _ _ _ _ _ _ _)
      | (with_reducible exact ih3 _ _ _ _ _ _ _)
      | (with_reducible exact ih4 _ _ _ _ _ _ _ _ _ _ _)
      | (with_reducible exact abacuslaw15_awake.mono _)
      | (with_reducible exact abacuslaw15_places.mono _ _)
      | (with_reducible exact abacuslaw15_without.mono _ _)
      | (with_reducible exact abacuslaw15_wrong.mono _ _ _ _ _)
      | (with_reducible exact point_Render.mono _ _ _ _ _ _)
      | (with_reducible exact LeO.refl _)
      | (with_reducible exact LeO.none _)
      | (with_reducible refine LeO.ite ?_ ?_)
      | (with_reducible refine LeO.bind ?_ (fun _ => ?_))
      | exact ih0 _ _ _ _
      | exact ih1 _ _ _ _ _
      | exact ih2 _ _ _ _ _ _ _ _
      | exact ih3 _ _ _ _ _ _ _
      | exact ih4 _ _ _ _ _ _ _ _ _ _ _
      | exact abacuslaw15_awake.mono _
      | exact abacuslaw15_places.mono _ _
      | exact abacuslaw15_without.mono _ _
      | exact abacuslaw15_wrong.mono _ _ _ _ _
      | exact point_Render.mono _ _ _ _ _ _
      | exact LeO.none _
      | refine LeO.ite ?_ ?_
      | refine LeO.bind ?_ (fun _ => ?_)
    · intro y0 y1 y2 y3 y4
      unfold abacuslaw15_PointGeneral.j1
      repeat' first
      | (with_reducible exact ih0 _ _ _ _)
      | (with_reducible exact ih1 _ _ _ _ _)
      | (with_reducible exact ih2 _ _ _ _ _ _ _ _)
      | (with_reducible exact ih3 _ _ _ _ _ _ _)
      | (with_reducible exact ih4 _ _ _ _ _ _ _ _ _ _ _)
      | (with_reducible exact abacuslaw15_awake.mono _)
      | (with_reducible exact abacuslaw15_places.mono _ _)
      | (with_reducible exact abacuslaw15_without.mono _ _)
      | (with_reducible exact abacuslaw15_wrong.mono _ _ _ _ _)
      | (with_reducible exact point_Render.mono _ _ _ _ _ _)
      | (with_reducible exact LeO.refl _)
      | (with_reducible exact LeO.none _)
      | (with_reducible refine LeO.ite ?_ ?_)
      | (with_reducible refine LeO.bind ?_ (fun _ => ?_))
      | exact ih0 _ _ _ _
      | exact ih1 _ _ _ _ _
      | exact ih2 _ _ _ _ _ _ _ _
      | exact ih3 _ _ _ _ _ _ _
      | exact ih4 _ _ _ _ _ _ _ _ _ _ _
      | exact abacuslaw15_awake.mono _
      | exact abacuslaw15_places.mono _ _
      | exact abacuslaw15_without.mono _ _
      | exact abacuslaw15_wrong.mono _ _ _ _ _
      | exact point_Render.mono _ _ _ _ _ _
      | exact LeO.none _
      | refine LeO.ite ?_ ?_
      | refine LeO.bind ?_ (fun _ => ?_)
    · intro y0 y1 y2 y3 y4 y5 y6 y7
      unfold abacuslaw15_PointGeneral.j2
      repeat' first
      | (with_reducible exact ih0 _ _ _ _)
      | (with_reducible exact ih1 _ _ _ _ _)
      | (with_reducible exact ih2 _ _ _ _ _ _ _ _)
      | (with_reducible exact ih3 _ _ _ _ _ _ _)
      | (with_reducible exact ih4 _ _ _ _ _ _ _ _ _ _ _)
      | (with_reducible exact abacuslaw15_awake.mono _)
      | (with_reducible exact abacuslaw15_places.mono _ _)
      | (with_reducible exact abacuslaw15_without.mono _ _)
      | (with_reducible exact abacuslaw15_wrong.mono _ _ _ _ _)
      | (with_reducible exact point_Render.mono _ _ _ _ _ _)
      | (with_reducible exact LeO.refl _)
      | (with_reducible exact LeO.none _)
      | (with_reducible refine LeO.ite ?_ ?_)
      | (with_reducible refine LeO.bind ?_ (fun _ => ?_))
      | exact ih0 _ _ _ _
      | exact ih1 _ _ _ _ _
      | exact ih2 _ _ _ _ _ _ _ _
      | exact ih3 _ _ _ _ _ _ _
      | exact ih4 _ _ _ _ _ _ _ _ _ _ _
      | exact abacuslaw15_awake.mono _
      | exact abacuslaw15_places.mono _ _
      | exact abacuslaw15_without.mono _ _
      | exact abacuslaw15_wrong.mono _ _ _ _ _
      | exact point_Render.mono _ _ _ _ _ _
      | exact LeO.none _
      | refine LeO.ite ?_ ?_
      | refine LeO.bind ?_ (fun _ => ?_)
    · intro y0 y1 y2 y3 y4 y5 y6
      unfold abacuslaw15_PointGeneral.j3
      repeat' first
      | (with_reducible exact ih0 _ _ _ _)
      | (with_reducible exact ih1 _ _ _ _ _)
      | (with_reducible exact ih2 _ _ _ _ _ _ _ _)
      | (with_reducible exact ih3 _ _ _ _ _ _ _)
      | (with_reducible exact ih4 _ _ _ _ _ _ _ _ _ _ _)
      | (with_reducible exact abacuslaw15_awake.mono _)
      | (with_reducible exact abacuslaw15_places.mono _ _)
      | (with_reducible exact abacuslaw15_without.mono _ _)
      | (with_reducible exact abacuslaw15_wrong.mono _ _ _ _ _)
      | (with_reducible exact point_Render.mono _ _ _ _ _ _)
      | (with_reducible exact LeO.refl _)
      | (with_reducible exact LeO.none _)
      | (with_reducible refine LeO.ite ?_ ?_)
      | (with_reducible refine LeO.bind ?_ (fun _ => ?_))
      | exact ih0 _ _ _ _
      | exact ih1 _ _ _ _ _
      | exact ih2 _ _ _ _ _ _ _ _
      | exact ih3 _ _ _ _ _ _ _
      | exact ih4 _ _ _ _ _ _ _ _ _ _ _
      | exact abacuslaw15_awake.mono _
      | exact abacuslaw15_places.mono _ _
      | exact abacuslaw15_without.mono _ _
      | exact abacuslaw15_wrong.mono _ _ _ _ _
      | exact point_Render.mono _ _ _ _ _ _
      | exact LeO.none _
      | refine LeO.ite ?_ ?_
      | refine LeO.bind ?_ (fun _ => ?_)
    · intro y0 y1 y2 y3 y4 y5 y6 y7 y8 y9 y10
      unfold abacuslaw15_PointGeneral.j4
      repeat' first
      | (with_reducible exact ih0 _ _ _ _)
      | (with_reducible exact ih1 _ _ _ _ _)
      | (with_reducible exact ih2 _ _ _ _ _ _ _ _)
      | (with_reducible exact ih3 _ _ _ _ _ _ _)
      | (with_reducible exact ih4 _ _ _ _ _ _ _ _ _ _ _)
      | (with_reducible exact abacuslaw15_awake.mono _)
      | (with_reducible exact abacuslaw15_places.mono _ _)
      | (with_reducible exact abacuslaw15_without.mono _ _)
      | (with_reducible exact abacuslaw15_wrong.mono _ _ _ _ _)
      | (with_reducible exact point_Render.mono _ _ _ _ _ _)
      | (with_reducible exact LeO.refl _)
      | (with_reducible exact LeO.none _)
      | (with_reducible refine LeO.ite ?_ ?_)
      | (with_reducible refine LeO.bind ?_ (fun _ => ?_))
      | exact ih0 _ _ _ _
      | exact ih1 _ _ _ _ _
      | exact ih2 _ _ _ _ _ _ _ _
      | exact ih3 _ _ _ _ _ _ _
      | exact ih4 _ _ _ _ _ _ _ _ _ _ _
      | exact abacuslaw15_awake.mono _
      | exact abacuslaw15_places.mono _ _
      | exact abacuslaw15_without.mono _ _
      | exact abacuslaw15_wrong.mono _ _ _ _ _
      | exact point_Render.mono _ _ _ _ _ _
      | exact LeO.none _
      | refine LeO.ite ?_ ?_
      | refine LeO.bind ?_ (fun _ => ?_)
theorem abacuslaw15_PointGeneral.mono : ∀ a0 a1 a2 a3 k, LeO (abacuslaw15_PointGeneral.f k a0 a1 a2 a3) (abacuslaw15_PointGeneral.f (k + 1) a0 a1 a2 a3) := by
  intro a0 a1 a2 a3 k; obtain ⟨ih0, ih1, ih2, ih3, ih4⟩ := abacuslaw15_PointGeneral.mono_l k; unfold abacuslaw15_PointGeneral.f; repeat' first
      | (with_reducible exact ih0 _ _ _ _)
      | (with_reducible exact ih1 _ _ _ _ _)
      | (with_reducible exact ih2 _ _ _ _ _ _ _ _)
      | (with_reducible exact ih3 _ _ _ _ _ _ _)
      | (with_reducible exact ih4 _ _ _ _ _ _ _ _ _ _ _)
      | (with_reducible exact abacuslaw15_awake.mono _)
      | (with_reducible exact abacuslaw15_places.mono _ _)
      | (with_reducible exact abacuslaw15_without.mono _ _)
      | (with_reducible exact abacuslaw15_wrong.mono _ _ _ _ _)
      | (with_reducible exact point_Render.mono _ _ _ _ _ _)
      | (with_reducible exact LeO.refl _)
      | (with_reducible exact LeO.none _)
      | (with_reducible refine LeO.ite ?_ ?_)
      | (with_reducible refine LeO.bind ?_ (fun _ => ?_))
      | exact ih0 _ _ _ _
      | exact ih1 _ _ _ _ _
      | exact ih2 _ _ _ _ _ _ _ _
      | exact ih3 _ _ _ _ _ _ _
      | exact ih4 _ _ _ _ _ _ _ _ _ _ _
      | exact abacuslaw15_awake.mono _
      | exact abacuslaw15_places.mono _ _
      | exact abacuslaw15_without.mono _ _
      | exact abacuslaw15_wrong.mono _ _ _ _ _
      | exact point_Render.mono _ _ _ _ _ _
      | exact LeO.none _
      | refine LeO.ite ?_ ?_
      | refine LeO.bind ?_ (fun _ => ?_)
theorem abacuslaw15_PointGeneral.w1 {P : Prop} (h : P := by
  go_wp2; go_meet
  case rel => exact ⟨_, (true), (by exact pz3), H', ⟨by have := HJ6.out; have := HJ9.out; first | omega | exact Nat.le_refl _⟩, ⟨by exact pz1⟩⟩) : P := h
theorem abacuslaw15_PointGeneral.w2 {P : Prop} (h : P := by
  go_wp2_with (first | ((with_reducible refine gate_callee (f := 15) rfl ?_); refine goesL_ (some 50) rfl rfl Tryz.func15 (by kernel_rfl) rfl #[.agg #[.int .u8 (bt x10_6 0), .int .i64 0, .int .i64 0, .int .i64 a2]] rfl (by exact pz4) ?_; (with_reducible refine (abacuslaw15_wrong.calls kj14 (bt x10_6 0) 0 0 a2 t353 _ A23.out).mono ?_); rintro e w24 ⟨rfl, hb⟩; refine ⟨_, rfl, ?_⟩; have n0_ := Aside0.mk (below_step (by exact pz1) hb); clear HB; have HB := n0_; clear n0_; (try clear hb); (try clear hb2); (try clear hk); (try clear hi)) | ((with_reducible refine gate_callee (f := 14) rfl ?_); refine goesL_ (some 98) rfl rfl Tryz.func14 (by kernel_rfl) rfl #[.agg #[.int .u8 (bt x10_6 2), .int .i64 x11_9, .int .i64 0, .int .i64 (wrap64 ((wrap64 (x14_24 - 1)) - t357))], .int .u64 a3] rfl (by exact pz4) ?_; (with_reducible refine (point_Render.calls kj31 (bt x10_6 2) x11_9 0 (wrap64 ((wrap64 (x14_24 - 1)) - t357)) a3 t358 t359 _ A40.out).mono ?_); rintro e w44 ⟨rfl, hb⟩; refine ⟨_, rfl, ?_⟩; have n0_ := Aside0.mk (below_step (by exact pz1) hb); clear HB; have HB := n0_; clear n0_; (try clear hb); (try clear hb2); (try clear hk); (try clear hi)) | ((with_reducible refine gate_callee (f := 24) rfl ?_); refine goesL_ (some 104) rfl rfl Tryz.func24 (by kernel_rfl) rfl #[.string t354] rfl (by exact pz4) ?_; (with_reducible refine (abacuslaw15_without.calls kj31 t354 t361 _ A56.out).mono ?_); rintro e w' ⟨rfl, ⟨nd, rfl⟩⟩; refine ⟨_, rfl, ?_⟩)); go_ret; exact ⟨by exact pz2, by exact pz1⟩) : P := h
theorem abacuslaw15_PointGeneral.w3 {P : Prop} (h : P := by
  go_wp2; go_ret; exact ⟨by exact pz2, by exact pz1⟩) : P := h
set_option maxHeartbeats 8000000 in
set_option maxRecDepth 100000 in
theorem abacuslaw15_PointGeneral.calls (k : Nat) (a0 : Bool) (a1 : Bool) (a2 : Int) (a3 : Int) (r : Bool) (w : World) (h : abacuslaw15_PointGeneral.f k a0 a1 a2 a3 = some r) (HG : Aside0 (GW w) := by exact pz5) :
    Calls Tryz.prog 6 #[.bool a0, .bool a1, .int .i64 a2, .int .u64 a3] w fun e w' => e = .returned (.bool r) ∧ Below w.heap.size w w' := by
  have hu23 := Tryz.underlying23; have HB := Aside0.mk (Below.refl w.heap.size w); have H : ((abacuslaw15_awake.f k).bind fun t349 => (if t349 = true then (if a0 = true then (abacuslaw15_PointGeneral.j0 k a1 a2 a3 (⟨#[71, 69, 70]⟩ : ByteArray)) else (abacuslaw15_PointGeneral.j0 k a1 a2 a3 (⟨#[103, 101, 102]⟩ : ByteArray))) else (some false))) = some r := h; clear h; replace H := Option.bind_eq_some_iff.mp H; obtain ⟨t349, A50, H⟩ := H; (try dsimp only at H); have A5 := Aside0.mk A50; clear A50; by_cases c6 : t349 = true
  · subst c6
    have H1 : (if a0 = true then (abacuslaw15_PointGeneral.j0 k a1 a2 a3 (⟨#[71, 69, 70]⟩ : ByteArray)) else (abacuslaw15_PointGeneral.j0 k a1 a2 a3 (⟨#[103, 101, 102]⟩ : ByteArray))) = some r := by rw [if_pos rfl] at H; exact H
    clear H; have H := H1; clear H1; have HC7 := Aside0.mk H; clear H; go_enter Tryz.func6, Tryz.ntmps6; go_upto_if 22 with (first | ((with_reducible refine gate_callee (f := 13) rfl ?_); refine goesL_ (some 19) rfl rfl Tryz.func13 (by kernel_rfl) rfl #[] rfl (by exact pz4) ?_; (with_reducible refine (abacuslaw15_awake.calls k  true _ A5.out).mono ?_); rintro e w8 ⟨rfl, hb⟩; refine ⟨_, rfl, ?_⟩; have n0_ := Aside0.mk (below_step (by exact pz1) hb); clear HB; have HB := n0_; clear n0_; (try clear hb); (try clear hb2); (try clear hk); (try clear hi)))
    (try simp only [Act.put, List.setIfInBounds_toArray, List.set_cons_zero, List.set_cons_succ])
    go_cut [10] (fun v10 wc => ∃ (kq : Nat) (x10_6 : ByteArray), v10 = .string x10_6 ∧ Aside0 (abacuslaw15_PointGeneral.j0 kq a1 a2 a3 x10_6 = some r) ∧ Aside0 (kq ≤ k) ∧ Aside0 (Below w.heap.size w wc))
    case first =>
      have H := HC7.out; clear HC7; by_cases c9 : a0 = true
      · subst c9
        have H1 : (abacuslaw15_PointGeneral.j0 k a1 a2 a3 (⟨#[71, 69, 70]⟩ : ByteArray)) = some r := by rw [if_pos rfl] at H; exact H
        clear H; have H := H1; clear H1; have H' := Aside0.mk H; clear H; go_wp2; go_meet
        case rel => exact ⟨_, ((⟨#[71, 69, 70]⟩ : ByteArray)), (by exact pz3), H', ⟨by first | omega | exact Nat.le_refl _⟩, ⟨by exact pz1⟩⟩
      replace c9 := Bool.eq_false_iff.mpr c9; subst c9; have H1 : (abacuslaw15_PointGeneral.j0 k a1 a2 a3 (⟨#[103, 101, 102]⟩ : ByteArray)) = some r := by rw [if_neg (show ¬ (false = true) by decide)] at H; exact H
      clear H; have H := H1; clear H1; have H' := Aside0.mk H; clear H; go_wp2; go_meet
      case rel => exact ⟨_, ((⟨#[103, 101, 102]⟩ : ByteArray)), (by exact pz3), H', ⟨by first | omega | exact Nat.le_refl _⟩, ⟨by exact pz1⟩⟩
    case rest =>
      clear HC7; (try clear c1); (try clear p2); (try clear c6); (try clear c9); obtain ⟨kq, x10_6, rfl, HA, HJ6, HB⟩ := hcut; cases kq with
      | zero => exact absurd HA.out (by simp [abacuslaw15_PointGeneral.j0])
      | succ kj6 =>
        have H := HA.out; clear HA; simp only [abacuslaw15_PointGeneral.j0] at H; have HC10 := Aside0.mk H; clear H; go_upto_if 23 with (fail)
        go_cut [11] (fun v11 wc => ∃ (kq : Nat) (x11_9 : Int), v11 = .int .i64 x11_9 ∧ Aside0 (abacuslaw15_PointGeneral.j1 kq a1 a2 a3 x10_6 x11_9 = some r) ∧ Aside0 (kq ≤ kj6) ∧ Aside0 (Below w.heap.size w wc))
        case first =>
          have H := HC10.out; clear HC10; by_cases c11 : a1 = true
          · subst c11
            have H1 : (abacuslaw15_PointGeneral.j1 kj6 true a2 a3 x10_6 8) = some r := by rw [if_pos rfl] at H; exact H
            clear H; have H := H1; clear H1; have H' := Aside0.mk H; clear H; go_wp2; go_meet
            case rel => exact ⟨_, (8), (by exact pz3), H', ⟨by have := HJ6.out; first | omega | exact Nat.le_refl _⟩, ⟨by exact pz1⟩⟩
          replace c11 := Bool.eq_false_iff.mpr c11; subst c11; have H1 : (abacuslaw15_PointGeneral.j1 kj6 false a2 a3 x10_6 0) = some r := by rw [if_neg (show ¬ (false = true) by decide)] at H; exact H
          clear H; have H := H1; clear H1; have H' := Aside0.mk H; clear H; go_wp2; go_meet
          case rel => exact ⟨_, (0), (by exact pz3), H', ⟨by have := HJ6.out; first | omega | exact Nat.le_refl _⟩, ⟨by exact pz1⟩⟩
        case rest =>
          clear HC10; (try clear c1); (try clear p2); (try clear c6); (try clear c9); (try clear c11); (try clear p2); obtain ⟨kq, x11_9, rfl, HA, HJ9, HB⟩ := hcut; cases kq with
          | zero => exact absurd HA.out (by simp [abacuslaw15_PointGeneral.j1])
          | succ kj9 =>
            have H := HA.out; clear HA; simp only [abacuslaw15_PointGeneral.j1] at H; by_cases c12 : 0 < (x10_6.size : Int)
            · rw [if_pos c12] at H
              have c12b0 : decide (0 < (x10_6.size : Int)) = true := decide_eq_true c12; have c12b1 : decide (0 < x10_6.size) = true := decide_eq_true (by omega); clear c12; replace H := Option.bind_eq_some_iff.mp H; obtain ⟨⟨t350, t351⟩, A140, H⟩ := H; (try dsimp only at H); have A14 := Aside0.mk A140; clear A140; have HC15 := Aside0.mk H; clear H; have p13 : 0 ≤ (0 : Int) := (by omega); have q13 : 0 < x10_6.size := (by have : (0 : Int) < (x10_6.size : Int) := of_decide_eq_true (by exact pz8); omega); have hx13 : ∀ h : 0 < x10_6.size, ((x10_6[0]'h).toNat : Int) = bt x10_6 0 := bt_at x10_6 0; clear p13; have qi13 : (0 < (x10_6.size : Int)) = True := eq_true (of_decide_eq_true (by exact pz8)); replace q13 := eq_true q13; go_upto_region 11 with (first | ((with_reducible refine gate_callee (f := 14) rfl ?_); refine goesL_ (some 31) rfl rfl Tryz.func14 (by kernel_rfl) rfl #[.agg #[.int .u8 (bt x10_6 0), .int .i64 x11_9, .int .i64 0, .int .i64 a2], .int .u64 a3] rfl (by exact pz4) ?_; (with_reducible refine (point_Render.calls kj9 (bt x10_6 0) x11_9 0 a2 a3 t350 t351 _ A14.out).mono ?_); rintro e w16 ⟨rfl, hb⟩; refine ⟨_, rfl, ?_⟩; have n0_ := Aside0.mk (below_step (by exact pz1) hb); clear HB; have HB := n0_; clear n0_; (try clear hb); (try clear hb2); (try clear hk); (try clear hi)))
              (try simp only [Act.put, List.setIfInBounds_toArray, List.set_cons_zero, List.set_cons_succ])
              go_cut [44] (fun v44 wc => ∃ (kq : Nat) (x44_14 : Bool), v44 = .bool x44_14 ∧ Aside0 (abacuslaw15_PointGeneral.j2 kq a1 a2 a3 x10_6 x11_9 t350 t351 x44_14 = some r) ∧ Aside0 (kq ≤ kj9) ∧ Aside0 (Below w.heap.size w wc))
              case first =>
                have H := HC15.out; clear HC15; by_cases c17 : a2 < (-1)
                · rw [if_pos c17] at H
                  have c17b0 : decide (a2 < (-1)) = true := decide_eq_true c17; clear c17; (first | rw [c17b0] | (simp only [i64_w, i32_w]; rw [c17b0]) | skip)
                  have H' := Aside0.mk H; clear H; exact abacuslaw15_PointGeneral.w1
                rw [if_neg c17] at H; have c17b0 : decide (a2 < (-1)) = false := decide_eq_false c17; clear c17; (first | rw [c17b0] | (simp only [i64_w, i32_w]; rw [c17b0]) | skip)
                by_cases c18 : a2 > 4096
                · rw [if_pos c18] at H
                  have c18b0 : decide (4096 < a2) = true := decide_eq_true c18; clear c18; have H' := Aside0.mk H; clear H; exact abacuslaw15_PointGeneral.w1
                rw [if_neg c18] at H; have c18b0 : decide (4096 < a2) = false := decide_eq_false c18; clear c18; replace H := Option.bind_eq_some_iff.mp H; obtain ⟨t352, A190, H⟩ := H; (try dsimp only at H); have A19 := Aside0.mk A190; clear A190; have H' := Aside0.mk H; clear H; go_wp2_with (first | (go_at_call 16; (with_reducible refine (abacuslaw15_finite.calls a3 t352 _ A19.out).mono ?_); rintro e w' ⟨rfl, ⟨nd, rfl⟩⟩)); go_meet
                case rel => exact ⟨_, (!t352), (by exact pz3), H', ⟨by have := HJ6.out; have := HJ9.out; first | omega | exact Nat.le_refl _⟩, ⟨by exact pz1⟩⟩
              case rest =>
                clear HC15; (try clear c1); (try clear p1); (try clear q1); (try clear hx1); (try clear qi1); (try clear p2); (try clear c6); (try clear c9); (try clear c11); (try clear c12); (try clear c12b0); (try clear c12b1); (try clear c13); (try clear p13); (try clear q13); (try clear hx13); (try clear qi13); (try clear c14); (try clear c17); (try clear c17b0); (try clear c18); (try clear c18b0); (try clear p13); (try clear p2); (try clear q13); obtain ⟨kq, x44_14, rfl, HA, HJ14, HB⟩ := hcut; cases kq with
                | zero => exact absurd HA.out (by simp [abacuslaw15_PointGeneral.j2])
                | succ kj14 =>
                  have H := HA.out; clear HA; simp only [abacuslaw15_PointGeneral.j2] at H; by_cases c20 : x44_14 = true
                  · subst c20
                    have H1 : (if 0 < (x10_6.size : Int) then ((abacuslaw15_wrong.f kj14 (bt x10_6 0) 0 0 a2).bind fun t353 => (some (t351 == t353))) else (none)) = some r := by rw [if_pos rfl] at H; exact H
                    clear H; have H := H1; clear H1; by_cases c21 : 0 < (x10_6.size : Int)
                    · rw [if_pos c21] at H
                      have c21b0 : decide (0 < (x10_6.size : Int)) = true := decide_eq_true c21; have c21b1 : decide (0 < x10_6.size) = true := decide_eq_true (by omega); clear c21; replace H := Option.bind_eq_some_iff.mp H; obtain ⟨t353, A230, H⟩ := H; (try dsimp only at H); have A23 := Aside0.mk A230; clear A230; obtain rfl := Option.some.inj H; have p22 : 0 ≤ (0 : Int) := (by omega); have q22 : 0 < x10_6.size := (by have : (0 : Int) < (x10_6.size : Int) := of_decide_eq_true (by exact pz8); omega); have hx22 : ∀ h : 0 < x10_6.size, ((x10_6[0]'h).toNat : Int) = bt x10_6 0 := bt_at x10_6 0; clear p22; have qi22 : (0 < (x10_6.size : Int)) = True := eq_true (of_decide_eq_true (by exact pz8)); replace q22 := eq_true q22; exact abacuslaw15_PointGeneral.w2
                    rw [if_neg c21] at H; exact absurd H (by simp)
                  replace c20 := Bool.eq_false_iff.mpr c20; subst c20; have H1 : (if a2 = (-1) then (abacuslaw15_PointGeneral.j3 kj14 a1 a3 x10_6 x11_9 t350 t351 6) else (if a2 = 0 then (abacuslaw15_PointGeneral.j3 kj14 a1 a3 x10_6 x11_9 t350 t351 1) else (abacuslaw15_PointGeneral.j3 kj14 a1 a3 x10_6 x11_9 t350 t351 a2))) = some r := by rw [if_neg (show ¬ (false = true) by decide)] at H; exact H
                  clear H; have H := H1; clear H1; have HC25 := Aside0.mk H; clear H; go_upto_block 0 with (fail)
                  go_cut [14] (fun v14 wc => ∃ (kq : Nat) (x14_24 : Int), v14 = .int .i64 x14_24 ∧ Aside0 (abacuslaw15_PointGeneral.j3 kq a1 a3 x10_6 x11_9 t350 t351 x14_24 = some r) ∧ Aside0 (kq ≤ kj14) ∧ Aside0 (Below w.heap.size w wc))
                  case first =>
                    have H := HC25.out; clear HC25; by_cases c26 : a2 = (-1)
                    · rw [if_pos c26] at H
                      have c26b0 : (a2 == (-1)) = true := beq_iff_eq.mpr c26; have c26b1 : (a2 != (-1)) = false := bne_eq_false_iff_eq.mpr c26; clear c26; (first | rw [c26b0] | (simp only [i64_w, i32_w]; rw [c26b0]) | skip)
                      have H' := Aside0.mk H; clear H; go_wp2; go_meet
                      case rel => exact ⟨_, (6), (by exact pz3), H', ⟨by have := HJ6.out; have := HJ9.out; have := HJ14.out; first | omega | exact Nat.le_refl _⟩, ⟨by exact pz1⟩⟩
                    rw [if_neg c26] at H; have c26b0 : (a2 == (-1)) = false := beq_eq_false_iff_ne.mpr c26; have c26b1 : (a2 != (-1)) = true := bne_iff_ne.mpr c26; (first | rw [c26b0] | (simp only [i64_w, i32_w]; rw [c26b0]) | skip)
                    by_cases c27 : a2 = 0
                    · rw [if_pos c27] at H
                      have c27b0 : (a2 == 0) = true := beq_iff_eq.mpr c27; have c27b1 : (a2 != 0) = false := bne_eq_false_iff_eq.mpr c27; clear c27; have H' := Aside0.mk H; clear H; go_wp2; go_meet
                      case rel => exact ⟨_, (1), (by exact pz3), H', ⟨by have := HJ6.out; have := HJ9.out; have := HJ14.out; first | omega | exact Nat.le_refl _⟩, ⟨by exact pz1⟩⟩
                    rw [if_neg c27] at H; have c27b0 : (a2 == 0) = false := beq_eq_false_iff_ne.mpr c27; have c27b1 : (a2 != 0) = true := bne_iff_ne.mpr c27; have H' := Aside0.mk H; clear H; go_wp2; go_meet
                    case rel => exact ⟨_, (a2), (by exact pz3), H', ⟨by have := HJ6.out; have := HJ9.out; have := HJ14.out; first | omega | exact Nat.le_refl _⟩, ⟨by exact pz1⟩⟩
                  case rest =>
                    clear HC25; (try clear c1); (try clear p1); (try clear q1); (try clear hx1); (try clear qi1); (try clear c2); (try clear p2); (try clear q2); (try clear hx2); (try clear qi2); (try clear c6); (try clear c9); (try clear c11); (try clear c12); (try clear c12b0); (try clear c12b1); (try clear c13); (try clear p13); (try clear q13); (try clear hx13); (try clear qi13); (try clear c14); (try clear c15); (try clear c17); (try clear c17b0); (try clear c18); (try clear c18b0); (try clear c20); (try clear c21); (try clear c21b0); (try clear c21b1); (try clear p22); (try clear q22); (try clear hx22); (try clear qi22); (try clear c26); (try clear c26b0); (try clear c26b1); (try clear c27); (try clear c27b0); (try clear c27b1); (try clear p1); (try clear p13); (try clear p2); (try clear p22); (try clear q1); (try clear q13); (try clear q22); obtain ⟨kq, x14_24, rfl, HA, HJ24, HB⟩ := hcut; cases kq with
                    | zero => exact absurd HA.out (by simp [abacuslaw15_PointGeneral.j3])
                    | succ kj24 =>
                      have H := HA.out; clear HA; simp only [abacuslaw15_PointGeneral.j3] at H; by_cases c28 : 1 < (x10_6.size : Int)
                      · rw [if_pos c28] at H
                        have c28b0 : decide (1 < (x10_6.size : Int)) = true := decide_eq_true c28; have c28b1 : decide (1 < x10_6.size) = true := decide_eq_true (by omega); clear c28; replace H := Option.bind_eq_some_iff.mp H; obtain ⟨⟨t354, t355⟩, A300, H⟩ := H; (try dsimp only at H); have A30 := Aside0.mk A300; clear A300; replace H := Option.bind_eq_some_iff.mp H; obtain ⟨⟨t356, t357⟩, A310, H⟩ := H; (try dsimp only at H); have A31 := Aside0.mk A310; clear A310; have HC32 := Aside0.mk H; clear H; have p29 : 0 ≤ (1 : Int) := (by omega); have q29 : 1 < x10_6.size := (by have : (1 : Int) < (x10_6.size : Int) := of_decide_eq_true (by exact pz8); omega); have hx29 : ∀ h : 1 < x10_6.size, ((x10_6[1]'h).toNat : Int) = bt x10_6 1 := bt_at x10_6 1; clear p29; have qi29 : (1 < (x10_6.size : Int)) = True := eq_true (of_decide_eq_true (by exact pz8)); replace q29 := eq_true q29; go_upto_region 21 with (first | ((with_reducible refine gate_callee (f := 14) rfl ?_); refine goesL_ (some 66) rfl rfl Tryz.func14 (by kernel_rfl) rfl #[.agg #[.int .u8 (bt x10_6 1), .int .i64 x11_9, .int .i64 0, .int .i64 (wrap64 (x14_24 - 1))], .int .u64 a3] rfl (by exact pz4) ?_; (with_reducible refine (point_Render.calls kj24 (bt x10_6 1) x11_9 0 (wrap64 (x14_24 - 1)) a3 t354 t355 _ A30.out).mono ?_); rintro e w33 ⟨rfl, hb⟩; refine ⟨_, rfl, ?_⟩; have n0_ := Aside0.mk (below_step (by exact pz1) hb); clear HB; have HB := n0_; clear n0_; (try clear hb); (try clear hb2); (try clear hk); (try clear hi)) | ((with_reducible refine gate_callee (f := 23) rfl ?_); refine goesL_ (some 71) rfl rfl Tryz.func23 (by kernel_rfl) rfl #[.string t354] rfl (by exact pz4) ?_; (with_reducible refine (abacuslaw15_places.calls kj24 t354 t356 t357 _ A31.out).mono ?_); rintro e w34 ⟨rfl, hb⟩; refine ⟨_, rfl, ?_⟩; have n0_ := Aside0.mk (below_step (by exact pz1) hb); clear HB; have HB := n0_; clear n0_; (try clear hb); (try clear hb2); (try clear hk); (try clear hi)))
                        (try simp only [Act.put, List.setIfInBounds_toArray, List.set_cons_zero, List.set_cons_succ])
                        go_cut [80] (fun v80 wc => ∃ (kq : Nat) (x80_31 : Bool), v80 = .bool x80_31 ∧ Aside0 (abacuslaw15_PointGeneral.j4 kq a1 a3 x10_6 x11_9 t350 t351 x14_24 t354 t355 t357 x80_31 = some r) ∧ Aside0 (kq ≤ kj24) ∧ Aside0 (Below w.heap.size w wc))
                        case first =>
                          have H := HC32.out; clear HC32; by_cases c35 : t357 ≥ (-4)
                          · rw [if_pos c35] at H
                            have c35b0 : decide ((-4) ≤ t357) = true := decide_eq_true c35; clear c35; (first | rw [c35b0] | (simp only [i64_w, i32_w]; rw [c35b0]) | skip)
                            have H' := Aside0.mk H; clear H; go_wp2; go_meet
                            case rel => exact ⟨_, (decide (t357 < x14_24)), (by exact pz3), H', ⟨by have := HJ6.out; have := HJ9.out; have := HJ14.out; have := HJ24.out; first | omega | exact Nat.le_refl _⟩, ⟨by exact pz1⟩⟩
                          rw [if_neg c35] at H; have c35b0 : decide ((-4) ≤ t357) = false := decide_eq_false c35; clear c35; (first | rw [c35b0] | (simp only [i64_w, i32_w]; rw [c35b0]) | skip)
                          have H' := Aside0.mk H; clear H; go_wp2; go_meet
                          case rel => exact ⟨_, (false), (by exact pz3), H', ⟨by have := HJ6.out; have := HJ9.out; have := HJ14.out; have := HJ24.out; first | omega | exact Nat.le_refl _⟩, ⟨by exact pz1⟩⟩
                        case rest =>
                          clear HC32; (try clear c1); (try clear p1); (try clear q1); (try clear hx1); (try clear qi1); (try clear c2); (try clear p2); (try clear q2); (try clear hx2); (try clear qi2); (try clear c3); (try clear c6); (try clear p6); (try clear c9); (try clear c11); (try clear c12); (try clear c12b0); (try clear c12b1); (try clear c13); (try clear p13); (try clear q13); (try clear hx13); (try clear qi13); (try clear c14); (try clear c15); (try clear c17); (try clear c17b0); (try clear c18); (try clear c18b0); (try clear c20); (try clear c21); (try clear c21b0); (try clear c21b1); (try clear p22); (try clear q22); (try clear hx22); (try clear qi22); (try clear c23); (try clear c26); (try clear c26b0); (try clear c26b1); (try clear c27); (try clear c27b0); (try clear c27b1); (try clear c28); (try clear c28b0); (try clear c28b1); (try clear p29); (try clear q29); (try clear hx29); (try clear qi29); (try clear c35); (try clear c35b0); (try clear p1); (try clear p13); (try clear p2); (try clear p22); (try clear p29); (try clear q1); (try clear q13); (try clear q2); (try clear q22); (try clear q29); obtain ⟨kq, x80_31, rfl, HA, HJ31, HB⟩ := hcut; cases kq with
                          | zero => exact absurd HA.out (by simp [abacuslaw15_PointGeneral.j4])
                          | succ kj31 =>
                            have H := HA.out; clear HA; simp only [abacuslaw15_PointGeneral.j4] at H; by_cases c36 : x80_31 = true
                            · subst c36
                              have H1 : (if (wrap64 ((wrap64 (x14_24 - 1)) - t357)) > 4096 then (some (t351 == 0)) else (if 2 < (x10_6.size : Int) then ((point_Render.f kj31 (bt x10_6 2) x11_9 0 (wrap64 ((wrap64 (x14_24 - 1)) - t357)) a3).bind fun bt358 => (if a1 = true then (if t351 = 0 then (if bt358.2 = 0 then (some (t350.toList == bt358.1.toList)) else (some false)) else (some false)) else ((abacuslaw15_without.f kj31 bt358.1).bind fun t360 => (if t351 = 0 then (if bt358.2 = 0 then (some (t350.toList == t360.toList)) else (some false)) else (some false))))) else (none))) = some r := by rw [if_pos rfl] at H; exact H
                              clear H; have H := H1; clear H1; by_cases c37 : (wrap64 ((wrap64 (x14_24 - 1)) - t357)) > 4096
                              · rw [if_pos c37] at H
                                have c37b0 : decide (4096 < (wrap64 ((wrap64 (x14_24 - 1)) - t357))) = true := decide_eq_true c37; clear c37; obtain rfl := Option.some.inj H; exact abacuslaw15_PointGeneral.w3
                              rw [if_neg c37] at H; have c37b0 : decide (4096 < (wrap64 ((wrap64 (x14_24 - 1)) - t357))) = false := decide_eq_false c37; clear c37; by_cases c38 : 2 < (x10_6.size : Int)
                              · rw [if_pos c38] at H
                                have c38b0 : decide (2 < (x10_6.size : Int)) = true := decide_eq_true c38; have c38b1 : decide (2 < x10_6.size) = true := decide_eq_true (by omega); clear c38; replace H := Option.bind_eq_some_iff.mp H; obtain ⟨⟨t358, t359⟩, A400, H⟩ := H; (try dsimp only at H); have A40 := Aside0.mk A400; clear A400; by_cases c41 : a1 = true
                                · subst c41
                                  have H1 : (if t351 = 0 then (if t359 = 0 then (some (t350.toList == t358.toList)) else (some false)) else (some false)) = some r := by rw [if_pos rfl] at H; exact H
                                  clear H; have H := H1; clear H1; by_cases c42 : t351 = 0
                                  · rw [if_pos c42] at H
                                    have c42b0 : (t351 == 0) = true := beq_iff_eq.mpr c42; have c42b1 : (t351 != 0) = false := bne_eq_false_iff_eq.mpr c42; clear c42; by_cases c43 : t359 = 0
                                    · rw [if_pos c43] at H
                                      have c43b0 : (t359 == 0) = true := beq_iff_eq.mpr c43; have c43b1 : (t359 != 0) = false := bne_eq_false_iff_eq.mpr c43; clear c43; obtain rfl := Option.some.inj H; have p39 : 0 ≤ (2 : Int) := (by omega); have q39 : 2 < x10_6.size := (by have : (2 : Int) < (x10_6.size : Int) := of_decide_eq_true (by exact pz8); omega); have hx39 : ∀ h : 2 < x10_6.size, ((x10_6[2]'h).toNat : Int) = bt x10_6 2 := bt_at x10_6 2; clear p39; have qi39 : (2 < (x10_6.size : Int)) = True := eq_true (of_decide_eq_true (by exact pz8)); replace q39 := eq_true q39; exact abacuslaw15_PointGeneral.w2
                                    rw [if_neg c43] at H; have c43b0 : (t359 == 0) = false := beq_eq_false_iff_ne.mpr c43; have c43b1 : (t359 != 0) = true := bne_iff_ne.mpr c43; obtain rfl := Option.some.inj H; have p39 : 0 ≤ (2 : Int) := (by omega); have q39 : 2 < x10_6.size := (by have : (2 : Int) < (x10_6.size : Int) := of_decide_eq_true (by exact pz8); omega); have hx39 : ∀ h : 2 < x10_6.size, ((x10_6[2]'h).toNat : Int) = bt x10_6 2 := bt_at x10_6 2; clear p39; have qi39 : (2 < (x10_6.size : Int)) = True := eq_true (of_decide_eq_true (by exact pz8)); replace q39 := eq_true q39; go_wp2_with (first | ((with_reducible refine gate_callee (f := 14) rfl ?_); refine goesL_ (some 98) rfl rfl Tryz.func14 (by kernel_rfl) rfl #[.agg #[.int .u8 (bt x10_6 2), .int .i64 x11_9, .int .i64 0, .int .i64 (wrap64 ((wrap64 (x14_24 - 1)) - t357))], .int .u64 a3] rfl (by exact pz4) ?_; (with_reducible refine (point_Render.calls kj31 (bt x10_6 2) x11_9 0 (wrap64 ((wrap64 (x14_24 - 1)) - t357)) a3 t358 t359 _ A40.out).mono ?_); rintro e w45 ⟨rfl, hb⟩; refine ⟨_, rfl, ?_⟩; have n0_ := Aside0.mk (below_step (by exact pz1) hb); clear HB; have HB := n0_; clear n0_; (try clear hb); (try clear hb2); (try clear hk); (try clear hi))); go_ret; exact ⟨by exact pz2, by exact pz1⟩
                                  rw [if_neg c42] at H; have c42b0 : (t351 == 0) = false := beq_eq_false_iff_ne.mpr c42; have c42b1 : (t351 != 0) = true := bne_iff_ne.mpr c42; obtain rfl := Option.some.inj H; have p39 : 0 ≤ (2 : Int) := (by omega); have q39 : 2 < x10_6.size := (by have : (2 : Int) < (x10_6.size : Int) := of_decide_eq_true (by exact pz8); omega); have hx39 : ∀ h : 2 < x10_6.size, ((x10_6[2]'h).toNat : Int) = bt x10_6 2 := bt_at x10_6 2; clear p39; have qi39 : (2 < (x10_6.size : Int)) = True := eq_true (of_decide_eq_true (by exact pz8)); replace q39 := eq_true q39; go_wp2_with (first | ((with_reducible refine gate_callee (f := 14) rfl ?_); refine goesL_ (some 98) rfl rfl Tryz.func14 (by kernel_rfl) rfl #[.agg #[.int .u8 (bt x10_6 2), .int .i64 x11_9, .int .i64 0, .int .i64 (wrap64 ((wrap64 (x14_24 - 1)) - t357))], .int .u64 a3] rfl (by exact pz4) ?_; (with_reducible refine (point_Render.calls kj31 (bt x10_6 2) x11_9 0 (wrap64 ((wrap64 (x14_24 - 1)) - t357)) a3 t358 t359 _ A40.out).mono ?_); rintro e w46 ⟨rfl, hb⟩; refine ⟨_, rfl, ?_⟩; have n0_ := Aside0.mk (below_step (by exact pz1) hb); clear HB; have HB := n0_; clear n0_; (try clear hb); (try clear hb2); (try clear hk); (try clear hi))); go_ret; exact ⟨by exact pz2, by exact pz1⟩
                                replace c41 := Bool.eq_false_iff.mpr c41; subst c41; have H1 : ((abacuslaw15_without.f kj31 t358).bind fun t360 => (if t351 = 0 then (if t359 = 0 then (some (t350.toList == t360.toList)) else (some false)) else (some false))) = some r := by rw [if_neg (show ¬ (false = true) by decide)] at H; exact H
                                clear H; have H := H1; clear H1; replace H := Option.bind_eq_some_iff.mp H; obtain ⟨t360, A470, H⟩ := H; (try dsimp only at H); have A47 := Aside0.mk A470; clear A470; by_cases c48 : t351 = 0
                                · rw [if_pos c48] at H
                                  have c48b0 : (t351 == 0) = true := beq_iff_eq.mpr c48; have c48b1 : (t351 != 0) = false := bne_eq_false_iff_eq.mpr c48; clear c48; by_cases c49 : t359 = 0
                                  · rw [if_pos c49] at H
                                    have c49b0 : (t359 == 0) = true := beq_iff_eq.mpr c49; have c49b1 : (t359 != 0) = false := bne_eq_false_iff_eq.mpr c49; clear c49; obtain rfl := Option.some.inj H; have p39 : 0 ≤ (2 : Int) := (by omega); have q39 : 2 < x10_6.size := (by have : (2 : Int) < (x10_6.size : Int) := of_decide_eq_true (by exact pz8); omega); have hx39 : ∀ h : 2 < x10_6.size, ((x10_6[2]'h).toNat : Int) = bt x10_6 2 := bt_at x10_6 2; clear p39; have qi39 : (2 < (x10_6.size : Int)) = True := eq_true (of_decide_eq_true (by exact pz8)); replace q39 := eq_true q39; go_wp2_with (first | ((with_reducible refine gate_callee (f := 14) rfl ?_); refine goesL_ (some 98) rfl rfl Tryz.func14 (by kernel_rfl) rfl #[.agg #[.int .u8 (bt x10_6 2), .int .i64 x11_9, .int .i64 0, .int .i64 (wrap64 ((wrap64 (x14_24 - 1)) - t357))], .int .u64 a3] rfl (by exact pz4) ?_; (with_reducible refine (point_Render.calls kj31 (bt x10_6 2) x11_9 0 (wrap64 ((wrap64 (x14_24 - 1)) - t357)) a3 t358 t359 _ A40.out).mono ?_); rintro e w50 ⟨rfl, hb⟩; refine ⟨_, rfl, ?_⟩; have n0_ := Aside0.mk (below_step (by exact pz1) hb); clear HB; have HB := n0_; clear n0_; (try clear hb); (try clear hb2); (try clear hk); (try clear hi)) | ((with_reducible refine gate_callee (f := 24) rfl ?_); refine goesL_ (some 104) rfl rfl Tryz.func24 (by kernel_rfl) rfl #[.string t358] rfl (by exact pz4) ?_; (with_reducible refine (abacuslaw15_without.calls kj31 t358 t360 _ A47.out).mono ?_); rintro e w' ⟨rfl, ⟨nd, rfl⟩⟩; refine ⟨_, rfl, ?_⟩)); go_ret; exact ⟨by exact pz2, by exact pz1⟩
                                  rw [if_neg c49] at H; have c49b0 : (t359 == 0) = false := beq_eq_false_iff_ne.mpr c49; have c49b1 : (t359 != 0) = true := bne_iff_ne.mpr c49; obtain rfl := Option.some.inj H; have p39 : 0 ≤ (2 : Int) := (by omega); have q39 : 2 < x10_6.size := (by have : (2 : Int) < (x10_6.size : Int) := of_decide_eq_true (by exact pz8); omega); have hx39 : ∀ h : 2 < x10_6.size, ((x10_6[2]'h).toNat : Int) = bt x10_6 2 := bt_at x10_6 2; clear p39; have qi39 : (2 < (x10_6.size : Int)) = True := eq_true (of_decide_eq_true (by exact pz8)); replace q39 := eq_true q39; go_wp2_with (first | ((with_reducible refine gate_callee (f := 14) rfl ?_); refine goesL_ (some 98) rfl rfl Tryz.func14 (by kernel_rfl) rfl #[.agg #[.int .u8 (bt x10_6 2), .int .i64 x11_9, .int .i64 0, .int .i64 (wrap64 ((wrap64 (x14_24 - 1)) - t357))], .int .u64 a3] rfl (by exact pz4) ?_; (with_reducible refine (point_Render.calls kj31 (bt x10_6 2) x11_9 0 (wrap64 ((wrap64 (x14_24 - 1)) - t357)) a3 t358 t359 _ A40.out).mono ?_); rintro e w51 ⟨rfl, hb⟩; refine ⟨_, rfl, ?_⟩; have n0_ := Aside0.mk (below_step (by exact pz1) hb); clear HB; have HB := n0_; clear n0_; (try clear hb); (try clear hb2); (try clear hk); (try clear hi)) | ((with_reducible refine gate_callee (f := 24) rfl ?_); refine goesL_ (some 104) rfl rfl Tryz.func24 (by kernel_rfl) rfl #[.string t358] rfl (by exact pz4) ?_; (with_reducible refine (abacuslaw15_without.calls kj31 t358 t360 _ A47.out).mono ?_); rintro e w' ⟨rfl, ⟨nd, rfl⟩⟩; refine ⟨_, rfl, ?_⟩)); go_ret; exact ⟨by exact pz2, by exact pz1⟩
                                rw [if_neg c48] at H; have c48b0 : (t351 == 0) = false := beq_eq_false_iff_ne.mpr c48; have c48b1 : (t351 != 0) = true := bne_iff_ne.mpr c48; obtain rfl := Option.some.inj H; have p39 : 0 ≤ (2 : Int) := (by omega); have q39 : 2 < x10_6.size := (by have : (2 : Int) < (x10_6.size : Int) := of_decide_eq_true (by exact pz8); omega); have hx39 : ∀ h : 2 < x10_6.size, ((x10_6[2]'h).toNat : Int) = bt x10_6 2 := bt_at x10_6 2; clear p39; have qi39 : (2 < (x10_6.size : Int)) = True := eq_true (of_decide_eq_true (by exact pz8)); replace q39 := eq_true q39; go_wp2_with (first | ((with_reducible refine gate_callee (f := 14) rfl ?_); refine goesL_ (some 98) rfl rfl Tryz.func14 (by kernel_rfl) rfl #[.agg #[.int .u8 (bt x10_6 2), .int .i64 x11_9, .int .i64 0, .int .i64 (wrap64 ((wrap64 (x14_24 - 1)) - t357))], .int .u64 a3] rfl (by exact pz4) ?_; (with_reducible refine (point_Render.calls kj31 (bt x10_6 2) x11_9 0 (wrap64 ((wrap64 (x14_24 - 1)) - t357)) a3 t358 t359 _ A40.out).mono ?_); rintro e w52 ⟨rfl, hb⟩; refine ⟨_, rfl, ?_⟩; have n0_ := Aside0.mk (below_step (by exact pz1) hb); clear HB; have HB := n0_; clear n0_; (try clear hb); (try clear hb2); (try clear hk); (try clear hi)) | ((with_reducible refine gate_callee (f := 24) rfl ?_); refine goesL_ (some 104) rfl rfl Tryz.func24 (by kernel_rfl) rfl #[.string t358] rfl (by exact pz4) ?_; (with_reducible refine (abacuslaw15_without.calls kj31 t358 t360 _ A47.out).mono ?_); rintro e w' ⟨rfl, ⟨nd, rfl⟩⟩; refine ⟨_, rfl, ?_⟩)); go_ret; exact ⟨by exact pz2, by exact pz1⟩
                              rw [if_neg c38] at H; exact absurd H (by simp)
                            replace c36 := Bool.eq_false_iff.mpr c36; subst c36; have H1 : (if a1 = true then (if t351 = 0 then (if t355 = 0 then (some (t350.toList == t354.toList)) else (some false)) else (some false)) else ((abacuslaw15_without.f kj31 t354).bind fun t361 => (if t351 = 0 then (if t355 = 0 then (some (t350.toList == t361.toList)) else (some false)) else (some false)))) = some r := by rw [if_neg (show ¬ (false = true) by decide)] at H; exact H
                            clear H; have H := H1; clear H1; by_cases c53 : a1 = true
                            · subst c53
                              have H1 : (if t351 = 0 then (if t355 = 0 then (some (t350.toList == t354.toList)) else (some false)) else (some false)) = some r := by rw [if_pos rfl] at H; exact H
                              clear H; have H := H1; clear H1; by_cases c54 : t351 = 0
                              · rw [if_pos c54] at H
                                have c54b0 : (t351 == 0) = true := beq_iff_eq.mpr c54; have c54b1 : (t351 != 0) = false := bne_eq_false_iff_eq.mpr c54; clear c54; by_cases c55 : t355 = 0
                                · rw [if_pos c55] at H
                                  have c55b0 : (t355 == 0) = true := beq_iff_eq.mpr c55; have c55b1 : (t355 != 0) = false := bne_eq_false_iff_eq.mpr c55; clear c55; obtain rfl := Option.some.inj H; exact abacuslaw15_PointGeneral.w3
                                rw [if_neg c55] at H; have c55b0 : (t355 == 0) = false := beq_eq_false_iff_ne.mpr c55; have c55b1 : (t355 != 0) = true := bne_iff_ne.mpr c55; obtain rfl := Option.some.inj H; exact abacuslaw15_PointGeneral.w3
                              rw [if_neg c54] at H; have c54b0 : (t351 == 0) = false := beq_eq_false_iff_ne.mpr c54; have c54b1 : (t351 != 0) = true := bne_iff_ne.mpr c54; obtain rfl := Option.some.inj H; exact abacuslaw15_PointGeneral.w3
                            replace c53 := Bool.eq_false_iff.mpr c53; subst c53; have H1 : ((abacuslaw15_without.f kj31 t354).bind fun t361 => (if t351 = 0 then (if t355 = 0 then (some (t350.toList == t361.toList)) else (some false)) else (some false))) = some r := by rw [if_neg (show ¬ (false = true) by decide)] at H; exact H
                            clear H; have H := H1; clear H1; replace H := Option.bind_eq_some_iff.mp H; obtain ⟨t361, A560, H⟩ := H; (try dsimp only at H); have A56 := Aside0.mk A560; clear A560; by_cases c57 : t351 = 0
                            · rw [if_pos c57] at H
                              have c57b0 : (t351 == 0) = true := beq_iff_eq.mpr c57; have c57b1 : (t351 != 0) = false := bne_eq_false_iff_eq.mpr c57; clear c57; by_cases c58 : t355 = 0
                              · rw [if_pos c58] at H
                                have c58b0 : (t355 == 0) = true := beq_iff_eq.mpr c58; have c58b1 : (t355 != 0) = false := bne_eq_false_iff_eq.mpr c58; clear c58; obtain rfl := Option.some.inj H; exact abacuslaw15_PointGeneral.w2
                              rw [if_neg c58] at H; have c58b0 : (t355 == 0) = false := beq_eq_false_iff_ne.mpr c58; have c58b1 : (t355 != 0) = true := bne_iff_ne.mpr c58; obtain rfl := Option.some.inj H; exact abacuslaw15_PointGeneral.w2
                            rw [if_neg c57] at H; have c57b0 : (t351 == 0) = false := beq_eq_false_iff_ne.mpr c57; have c57b1 : (t351 != 0) = true := bne_iff_ne.mpr c57; obtain rfl := Option.some.inj H; exact abacuslaw15_PointGeneral.w2
                      rw [if_neg c28] at H; exact absurd H (by simp)
            rw [if_neg c12] at H; exact absurd H (by simp)
  replace c6 := Bool.eq_false_iff.mpr c6; subst c6; have H1 : (some false) = some r := by rw [if_neg (show ¬ (false = true) by decide)] at H; exact H
  clear H; have H := H1; clear H1; obtain rfl := Option.some.inj H; go_enter Tryz.func6, Tryz.ntmps6; go_wp2_with (first | ((with_reducible refine gate_callee (f := 13) rfl ?_); refine goesL_ (some 19) rfl rfl Tryz.func13 (by kernel_rfl) rfl #[] rfl (by exact pz4) ?_; (with_reducible refine (abacuslaw15_awake.calls k  false _ A5.out).mono ?_); rintro e w59 ⟨rfl, hb⟩; refine ⟨_, rfl, ?_⟩; have n0_ := Aside0.mk (below_step (by exact pz1) hb); clear HB; have HB := n0_; clear n0_; (try clear hb); (try clear hb2); (try clear hk); (try clear hi))); go_ret; exact ⟨by exact pz2, by exact pz1⟩

end Go.Proofs.YtgbjojokjekmhaaGreatDoor.PXG
