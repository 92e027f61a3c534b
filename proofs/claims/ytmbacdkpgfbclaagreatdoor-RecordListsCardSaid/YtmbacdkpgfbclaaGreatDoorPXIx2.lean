/- The machine's side of a law, printed by a program of this session out of the translation; conditions: none. -/
import Derived.Test.YtmbacdkpgfbclaaGreatDoorPXIx0
namespace Go.Proofs.YtmbacdkpgfbclaaGreatDoor.PXI
open Go.Proofs.YtmbacdkpgfbclaaGreatDoor
open Go.RowKit Go.Proofs.YtmbacdkpgfbclaaGreatDoorW.PrintWords Go.Proofs.YtmbacdkpgfbclaaGreatDoorW.PrintLast Go.Proofs.YtmbacdkpgfbclaaGreatDoorW.PrintMore
attribute [local go_sem] max2_int min2_int max_two min_two max_three min_three max_four min_four   -- for this text's walks alone
set_option linter.unusedVariables false
set_option linter.unusedSimpArgs false

theorem eqA158 (d : Nat) (w : World) (x0 y0 : Bool) (x1 y1 : ByteArray) (x2 y2 : Int) :
    (Op.equalIn (d + 2) 158 (.agg #[.bool x0, .string x1, .int .i64 x2]) (.agg #[.bool y0, .string y1, .int .i64 y2])).run Tryz.prog w = .ok (x0 == y0 && (x1.toList == y1.toList && (x2 == y2))) w := by
  refine eqA_of Tryz.underlying158 (by kernel_rfl) ?_; refine eqf_cons (by rfl) (by go_simp; rfl) (by go_simp; rfl) (by go_simp) ?_; refine eqf_cons (by rfl) (by go_simp; rfl) (by go_simp; rfl) (by go_simp) ?_; exact eqf_last (by rfl) (by go_simp; rfl) (by go_simp; rfl) (by go_simp)
end Go.Proofs.YtmbacdkpgfbclaaGreatDoor.PXI
namespace Go.Proofs.YtmbacdkpgfbclaaGreatDoor.PXI
open Go.Proofs.YtmbacdkpgfbclaaGreatDoor
open Go.RowKit Go.Proofs.YtmbacdkpgfbclaaGreatDoorW.PrintWords Go.Proofs.YtmbacdkpgfbclaaGreatDoorW.PrintLast Go.Proofs.YtmbacdkpgfbclaaGreatDoorW.PrintMore
attribute [local go_sem] max2_int min2_int max_two min_two max_three min_three max_four min_four   -- for this text's walks alone
set_option linter.unusedVariables false
set_option linter.unusedSimpArgs false

theorem phIx2_4 {P : Prop} (h : P := by repeat (first | exact Below.refl _ _ | apply below_alloc | apply pw_below_drewN | refine below_set ?_ (Nat.le_refl _))) : P := h
/-! ### ieee_Abs: function 114 -/
def ieee_Abs.f (a0 : Int) : Option (Int) := some (Go.bits .andNot .u64 a0 9223372036854775808)
set_option maxHeartbeats 8000000 in
set_option maxRecDepth 100000 in
theorem ieee_Abs.calls (a0 : Int) (r : Int) (w : World) (h : ieee_Abs.f a0 = some r) (HG : Aside0 (GW w) := by exact pz2) :
    Calls Tryz.prog 114 #[.int .u64 a0] w fun e w' => e = .returned (.int .u64 r) ∧ Drawn0 w w' := by
  have H := h; clear h; unfold ieee_Abs.f at H; obtain rfl := Option.some.inj H; go_enter Tryz.func114, Tryz.ntmps114; go_wp2; go_ret; exact ⟨by first | rfl | (simp; done) | (simp [*]; done), by exact pz1⟩

/-! ### ieee_Class: function 96 -/
def ieee_Class.f (a0 : Int) : Option (Int) := (ieee_Abs.f a0).bind fun t101 => (if t101 = 0 then (some 0) else (if t101 < 4503599627370496 then (some 1) else (if t101 < 9218868437227405312 then (some 2) else (if t101 = 9218868437227405312 then (some 3) else (some 4)))))
theorem ieee_Class.w1 {P : Prop} (h : P := by
  go_enter Tryz.func96, Tryz.ntmps96; go_wp2_with (first | ((with_reducible refine gate_callee (f := 114) rfl ?_); refine goesL_ (some 4) rfl rfl Tryz.func114 (by kernel_rfl) rfl #[.int .u64 a0] rfl (by (try simp only [List.map_toArray, List.map_cons, List.map_nil]); first | done | rfl | (simp only [List.length_drop, List.length_take]; rfl)) ?_; (with_reducible refine (ieee_Abs.calls a0 t101 _ A2.out).mono ?_); rintro e w' ⟨rfl, ⟨nd, rfl⟩⟩; refine ⟨_, rfl, ?_⟩)); go_ret; exact ⟨by first | rfl | (simp; done) | (simp [*]; done), by exact pz1⟩) : P := h
set_option maxHeartbeats 8000000 in
set_option maxRecDepth 100000 in
theorem ieee_Class.calls (a0 : Int) (r : Int) (w : World) (h : ieee_Class.f a0 = some r) (HG : Aside0 (GW w) := by exact pz2) :
    Calls Tryz.prog 96 #[.int .u64 a0] w fun e w' => e = .returned (.int .i64 r) ∧ Drawn0 w w' := by
  have H := h; clear h; unfold ieee_Class.f at H; replace H := Option.bind_eq_some_iff.mp H; obtain ⟨t101, A20, H⟩ := H; (try dsimp only at H); have A2 := Aside0.mk A20; clear A20; by_cases c3 : t101 = 0
  · rw [if_pos c3] at H
    have c3b0 := beq_iff_eq.mpr c3; have c3b1 := bne_eq_false_iff_eq.mpr c3; clear c3; obtain rfl := Option.some.inj H; exact ieee_Class.w1
  rw [if_neg c3] at H; have c3b0 := beq_eq_false_iff_ne.mpr c3; have c3b1 := bne_iff_ne.mpr c3; by_cases c4 : t101 < 4503599627370496
  · rw [if_pos c4] at H
    have c4b0 := decide_eq_true c4; clear c4; obtain rfl := Option.some.inj H; exact ieee_Class.w1
  rw [if_neg c4] at H; have c4b0 := decide_eq_false c4; clear c4; by_cases c5 : t101 < 9218868437227405312
  · rw [if_pos c5] at H
    have c5b0 := decide_eq_true c5; clear c5; obtain rfl := Option.some.inj H; exact ieee_Class.w1
  rw [if_neg c5] at H; have c5b0 := decide_eq_false c5; clear c5; by_cases c6 : t101 = 9218868437227405312
  · rw [if_pos c6] at H
    have c6b0 := beq_iff_eq.mpr c6; have c6b1 := bne_eq_false_iff_eq.mpr c6; clear c6; obtain rfl := Option.some.inj H; exact ieee_Class.w1
  rw [if_neg c6] at H; have c6b0 := beq_eq_false_iff_ne.mpr c6; have c6b1 := bne_iff_ne.mpr c6; obtain rfl := Option.some.inj H; exact ieee_Class.w1

/-! ### ieee_Decode: function 174 -/
def ieee_Decode.f (a0 : Int) : Option (Bool × Int × Int × Int) := (ieee_Class.f a0).bind fun t150 => (if t150 = 1 then (some (((Go.bits .and .u64 a0 9223372036854775808) != 0), t150, Go.bits .and .u64 a0 4503599627370495, (-1074))) else (if t150 = 2 then (some (((Go.bits .and .u64 a0 9223372036854775808) != 0), t150, Go.bits .or .u64 4503599627370496 (Go.bits .and .u64 a0 4503599627370495), wrap64 ((wrap64 (Go.bits .and .u64 (a0 / 4503599627370496) 2047)) - 1075))) else (if t150 = 4 then (some (((Go.bits .and .u64 a0 9223372036854775808) != 0), t150, Go.bits .and .u64 a0 4503599627370495, 0)) else (some (((Go.bits .and .u64 a0 9223372036854775808) != 0), t150, 0, 0)))))
set_option maxHeartbeats 2000000 in
set_option maxRecDepth 100000 in
theorem ieee_Decode.calls (a0 : Int) (r1 : Bool) (r2 : Int) (r3 : Int) (r4 : Int) (w : World) (h : ieee_Decode.f a0 = some (r1, r2, r3, r4)) (HG : Aside0 (GW w) := by exact pz2) :
    Calls Tryz.prog 174 #[.int .u64 a0] w fun e w' => e = .returned (.agg #[.bool r1, .int .i64 r2, .int .u64 r3, .int .i64 r4]) ∧ Below w.heap.size w w' := by
  have hu109 := Tryz.underlying239; obtain ⟨c, hc, h⟩ := Option.bind_eq_some_iff.mp h; have hcls : ∀ u : World, GW u → Calls Tryz.prog 96 #[.int .u64 a0] u fun e u' => e = .returned (.int .i64 c) ∧ Drawn0 u u' := fun u hu => ieee_Class.calls a0 c u hc ⟨hu⟩
  obtain ⟨b1, hb1⟩ : ∃ b, Go.bits .and .u64 a0 9223372036854775808 = b := ⟨_, rfl⟩; obtain ⟨b2, hb2⟩ : ∃ b, Go.bits .and .u64 a0 4503599627370495 = b := ⟨_, rfl⟩; obtain ⟨b3, hb3⟩ : ∃ b, Go.bits .or .u64 4503599627370496 b2 = b := ⟨_, rfl⟩; rw [hb1, hb2, hb3] at h; obtain ⟨b4, hb4⟩ : ∃ b, Go.bits .and .u64 (a0 / 4503599627370496) 2047 = b := ⟨_, rfl⟩; rw [hb4] at h; by_cases c3 : c = 1
  · rw [if_pos c3] at h
    have c3b0 := beq_iff_eq.mpr c3; clear c3; simp only [Option.some.injEq, Prod.mk.injEq] at h; obtain ⟨rfl, rfl, rfl, rfl⟩ := h; go_enter Tryz.func174, Tryz.ntmps174; go_wp2_with (go_at_call 96; refine (hcls _ (HG.out.alloc _)).mono ?_; rintro e w' ⟨rfl, ⟨nd, rfl⟩⟩); refine bodyPost_ret (results_cell_row rfl _ _ w.heap.size 239 #[.bool (b1 != 0), .int .i64 c, .int .u64 b2, .int .i64 (-1074)] (0, 0) _ rfl ?_ Tryz.underlying239 rfl (by kernel_rfl)) rfl ?_
    · refine blk_alloc ?_ _
      refine blk_put (cs := #[.bool (b1 != 0), .int .i64 c, .int .u64 b2, .int .i64 0]) ?_ 3 _ rfl; refine blk_put (cs := #[.bool (b1 != 0), .int .i64 c, .int .u64 0, .int .i64 0]) ?_ 2 _ rfl; refine blk_put (cs := #[.bool (b1 != 0), .int .i64 0, .int .u64 0, .int .i64 0]) ?_ 1 _ rfl; refine blk_put (cs := #[.bool false, .int .i64 0, .int .u64 0, .int .i64 0]) ?_ 0 _ rfl; refine blk_drewN ?_ _; exact heap_alloc_new w _
    exact ⟨rfl, by exact phIx2_4⟩
  rw [if_neg c3] at h; have c3b0 := beq_eq_false_iff_ne.mpr c3; clear c3; by_cases c4 : c = 2
  · rw [if_pos c4] at h
    have c4b0 := beq_iff_eq.mpr c4; clear c4; simp only [Option.some.injEq, Prod.mk.injEq] at h; obtain ⟨rfl, rfl, rfl, rfl⟩ := h; go_enter Tryz.func174, Tryz.ntmps174; go_wp2_with (go_at_call 96; refine (hcls _ (HG.out.alloc _)).mono ?_; rintro e w' ⟨rfl, ⟨nd, rfl⟩⟩); refine bodyPost_ret (results_cell_row rfl _ _ w.heap.size 239 #[.bool (b1 != 0), .int .i64 c, .int .u64 b3, .int .i64 (wrap64 ((wrap64 b4) - 1075))] (0, 0) _ rfl ?_ Tryz.underlying239 rfl (by kernel_rfl)) rfl ?_
    · refine blk_alloc ?_ _
      refine blk_put (cs := #[.bool (b1 != 0), .int .i64 c, .int .u64 b3, .int .i64 0]) ?_ 3 _ rfl; refine blk_put (cs := #[.bool (b1 != 0), .int .i64 c, .int .u64 0, .int .i64 0]) ?_ 2 _ rfl; refine blk_put (cs := #[.bool (b1 != 0), .int .i64 0, .int .u64 0, .int .i64 0]) ?_ 1 _ rfl; refine blk_put (cs := #[.bool false, .int .i64 0, .int .u64 0, .int .i64 0]) ?_ 0 _ rfl; refine blk_drewN ?_ _; exact heap_alloc_new w _
    exact ⟨rfl, by exact phIx2_4⟩
  rw [if_neg c4] at h; have c4b0 := beq_eq_false_iff_ne.mpr c4; clear c4; by_cases c5 : c = 4
  · rw [if_pos c5] at h
    have c5b0 := beq_iff_eq.mpr c5; clear c5; simp only [Option.some.injEq, Prod.mk.injEq] at h; obtain ⟨rfl, rfl, rfl, rfl⟩ := h; go_enter Tryz.func174, Tryz.ntmps174; go_wp2_with (go_at_call 96; refine (hcls _ (HG.out.alloc _)).mono ?_; rintro e w' ⟨rfl, ⟨nd, rfl⟩⟩); refine bodyPost_ret (results_cell_row rfl _ _ w.heap.size 239 #[.bool (b1 != 0), .int .i64 c, .int .u64 b2, .int .i64 0] (0, 0) _ rfl ?_ Tryz.underlying239 rfl (by kernel_rfl)) rfl ?_
    · refine blk_alloc ?_ _
      refine blk_put (cs := #[.bool (b1 != 0), .int .i64 c, .int .u64 b2, .int .i64 0]) ?_ 3 _ rfl; refine blk_put (cs := #[.bool (b1 != 0), .int .i64 c, .int .u64 0, .int .i64 0]) ?_ 2 _ rfl; refine blk_put (cs := #[.bool (b1 != 0), .int .i64 0, .int .u64 0, .int .i64 0]) ?_ 1 _ rfl; refine blk_put (cs := #[.bool false, .int .i64 0, .int .u64 0, .int .i64 0]) ?_ 0 _ rfl; refine blk_drewN ?_ _; exact heap_alloc_new w _
    exact ⟨rfl, by exact phIx2_4⟩
  rw [if_neg c5] at h; have c5b0 := beq_eq_false_iff_ne.mpr c5; clear c5; simp only [Option.some.injEq, Prod.mk.injEq] at h; obtain ⟨rfl, rfl, rfl, rfl⟩ := h; go_enter Tryz.func174, Tryz.ntmps174; go_wp2_with (go_at_call 96; refine (hcls _ (HG.out.alloc _)).mono ?_; rintro e w' ⟨rfl, ⟨nd, rfl⟩⟩); refine bodyPost_ret (results_cell_row rfl _ _ w.heap.size 239 #[.bool (b1 != 0), .int .i64 c, .int .u64 0, .int .i64 0] (0, 0) _ rfl ?_ Tryz.underlying239 rfl (by kernel_rfl)) rfl ?_
  · refine blk_alloc ?_ _
    refine blk_put (cs := #[.bool (b1 != 0), .int .i64 c, .int .u64 0, .int .i64 0]) ?_ 3 _ rfl; refine blk_put (cs := #[.bool (b1 != 0), .int .i64 c, .int .u64 0, .int .i64 0]) ?_ 2 _ rfl; refine blk_put (cs := #[.bool (b1 != 0), .int .i64 0, .int .u64 0, .int .i64 0]) ?_ 1 _ rfl; refine blk_put (cs := #[.bool false, .int .i64 0, .int .u64 0, .int .i64 0]) ?_ 0 _ rfl; refine blk_drewN ?_ _; exact heap_alloc_new w _
  exact ⟨rfl, by exact phIx2_4⟩

/-! ### nat_size: function 204 -/
def nat_size.l0 : Nat → List Int → Int → Option (Int)
  | 0, _, _ => none
  | k + 1, x0, x3 => if x3 > 0 then (if 0 ≤ (wrap64 (x3 - 1)) then (if (wrap64 (x3 - 1)) < (x0.length : Int) then (if (rd x0 (wrap64 (x3 - 1))) = 0 then (nat_size.l0 k x0 (wrap64 (x3 - 1))) else (some x3)) else (none)) else (none)) else (some x3)
def nat_size.f (k : Nat) (l0 : List Int) : Option (Int) := nat_size.l0 k l0 (l0.length : Int)
theorem nat_size.mo {P : Prop} (h : P := by repeat' with_reducible first | apply ih0 | apply LeO.refl | apply LeO.none | refine LeO.ite ?_ ?_ | refine LeO.bind ?_ (fun _ => ?_)) : P := h
theorem nat_size.mono_l : ∀ k, (∀ y0 y1, LeO (nat_size.l0 k y0 y1) (nat_size.l0 (k + 1) y0 y1))
  | 0 => fun _ _ r h => by simp [nat_size.l0] at h
  | k + 1 => by
    have ih0 := nat_size.mono_l k
    · intro y0 y1
      unfold nat_size.l0
      exact nat_size.mo
theorem nat_size.mono : ∀ a0 k, LeO (nat_size.f k a0) (nat_size.f (k + 1) a0) := by
  intro a0 k; have ih0 := nat_size.mono_l k; unfold nat_size.f; exact nat_size.mo
set_option maxHeartbeats 8000000 in
set_option maxRecDepth 100000 in
theorem nat_size.calls (k : Nat) (A0 : Option Addr) (c0 : Nat) (l0 : List Int) (r : Int) (w : World) (hr0 : Kd.C (Kd.int .u64) w A0 l0.length l0) (hc0 : l0.length ≤ c0) (h : nat_size.f k l0 = some r) (HG : Aside0 (GW w) := by exact pz2) :
    Calls Tryz.prog 204 #[.slice A0 l0.length c0] w fun e w' => e = .returned (.int .i64 r) ∧ Drawn0 w w' := by
  have HR0 := Aside0.mk hr0; have HC0 := Aside0.mk hc0; clear hr0 hc0; have H := h; clear h; unfold nat_size.f at H; have H' := Aside0.mk H; clear H; go_enter Tryz.func204, Tryz.ntmps204; go_wp2; go_loopg [3] k (fun kq v3 w' => ∃ (x3_1 : Int), v3 = .int .i64 x3_1 ∧ Aside0 (nat_size.l0 kq l0 x3_1 = some r) ∧ Aside0 (kq ≤ k) ∧ Drawn0 w w')
  case atStart => exact ⟨((l0.length : Int)), (by first | rfl | (simp; done) | (simp [*]; done)), H', ⟨Nat.le_refl _⟩, by exact pz1⟩
  case round =>
    clear H'; obtain ⟨x3_1, rfl, HA, HK1, ⟨m1, rfl⟩⟩ := hrel; cases gk with
    | zero => exact absurd HA.out (by simp [nat_size.l0])
    | succ k1 =>
      have H := HA.out; clear HA; simp only [nat_size.l0] at H; by_cases c2 : x3_1 > 0
      · rw [if_pos c2] at H
        have c2b0 : decide (0 < x3_1) = true := decide_eq_true c2; clear c2; obtain ⟨ji3, hji3⟩ : ∃ j_ : Int, (wrap64 (x3_1 - 1)) = j_ := ⟨_, rfl⟩; replace H : (if 0 ≤ (ji3) then (if (ji3) < (l0.length : Int) then (if (rd l0 (ji3)) = 0 then (nat_size.l0 k1 l0 ji3) else (some x3_1)) else (none)) else (none)) = some r := by first | (rw [hji3] at H; exact H) | (simp only [hji3] at H ⊢; exact H)
        have hji3w : (IntKind.i64.wrap (x3_1 - 1)) = ji3 := (i64_w _).trans hji3; by_cases c4 : 0 ≤ (ji3)
        · rw [if_pos c4] at H
          have c4b0 := decide_eq_true c4; clear c4; by_cases c5 : (ji3) < (l0.length : Int)
          · rw [if_pos c5] at H
            have c5b0 := decide_eq_true c5; clear c5; by_cases c6 : (rd l0 (ji3)) = 0
            · rw [if_pos c6] at H
              have c6b0 := beq_iff_eq.mpr c6; have c6b1 := bne_eq_false_iff_eq.mpr c6; clear c6; have H' := Aside0.mk H; clear H; have p102 : 0 ≤ ((ji3) : Int) := of_decide_eq_true (by first | (with_reducible assumption) | assumption); have q102 : (ji3) < (l0.length : Int) := of_decide_eq_true (by first | (with_reducible assumption) | assumption); obtain ⟨ad102, e102, hx102_0⟩ := Kd.at_int HR0.out (ji3) p102 q102; cases e102
              replace p102 := eq_true p102; replace q102 := eq_true q102; go_wp2; (try simp only [← hji3])
              go_roundg k1
              case measure => have := HK1.out; omega
              case rel => exact ⟨(ji3), (by first | rfl | (simp; done) | (simp only [← hji3] <;> (first | rfl | simp)) | (simp [*]; done)), (by first | exact H' | ((try rw [hji3]); exact H')), ⟨by have := HK1.out; omega⟩, by exact pz1⟩
            rw [if_neg c6] at H; have c6b0 := beq_eq_false_iff_ne.mpr c6; have c6b1 := bne_iff_ne.mpr c6; obtain rfl := Option.some.inj H; have p102 : 0 ≤ ((ji3) : Int) := of_decide_eq_true (by first | (with_reducible assumption) | assumption); have q102 : (ji3) < (l0.length : Int) := of_decide_eq_true (by first | (with_reducible assumption) | assumption); obtain ⟨ad102, e102, hx102_0⟩ := Kd.at_int HR0.out (ji3) p102 q102; cases e102
            replace p102 := eq_true p102; replace q102 := eq_true q102; go_wp2; go_ret; exact ⟨by first | rfl | (simp; done) | (simp only [← hji3] <;> (first | rfl | simp)) | (simp [*]; done), by exact pz1⟩
          rw [if_neg c5] at H; exact absurd H (by simp)
        rw [if_neg c4] at H; exact absurd H (by simp)
      rw [if_neg c2] at H; have c2b0 : decide (0 < x3_1) = false := decide_eq_false c2; clear c2; obtain rfl := Option.some.inj H; go_wp2; go_ret; exact ⟨by first | rfl | (simp; done) | (simp [*]; done), by exact pz1⟩

/-! ### nat_big: function 226 -/
def nat_big.f (k : Nat) (l0 : List Int) : Option (Bool) := (nat_size.f k l0).bind fun t103 => (some (decide (t103 > 4096)))
theorem nat_big.mo {P : Prop} (h : P := by repeat' with_reducible first | apply nat_size.mono | apply LeO.refl | apply LeO.none | refine LeO.ite ?_ ?_ | refine LeO.bind ?_ (fun _ => ?_)) : P := h
theorem nat_big.mono : ∀ a0 k, LeO (nat_big.f k a0) (nat_big.f (k + 1) a0) := by
  intro a0 k; unfold nat_big.f; exact nat_big.mo
set_option maxHeartbeats 8000000 in
set_option maxRecDepth 100000 in
theorem nat_big.calls (k : Nat) (A0 : Option Addr) (c0 : Nat) (l0 : List Int) (r : Bool) (w : World) (hr0 : Kd.C (Kd.int .u64) w A0 l0.length l0) (hc0 : l0.length ≤ c0) (h : nat_big.f k l0 = some r) (HG : Aside0 (GW w) := by exact pz2) :
    Calls Tryz.prog 226 #[.slice A0 l0.length c0] w fun e w' => e = .returned (.bool r) ∧ Drawn0 w w' := by
  have HR0 := Aside0.mk hr0; have HC0 := Aside0.mk hc0; clear hr0 hc0; have H := h; clear h; unfold nat_big.f at H; replace H := Option.bind_eq_some_iff.mp H; obtain ⟨t103, A20, H⟩ := H; (try dsimp only at H); have A2 := Aside0.mk A20; clear A20; obtain rfl := Option.some.inj H; go_enter Tryz.func226, Tryz.ntmps226; go_wp2_with (first | ((with_reducible refine gate_callee (f := 204) rfl ?_); refine goesL_ (some 4) rfl rfl Tryz.func204 (by kernel_rfl) rfl #[.slice A0 l0.length c0] rfl (by (try simp only [List.map_toArray, List.map_cons, List.map_nil]); first | done | rfl | (simp only [List.length_drop, List.length_take]; rfl)) ?_; (with_reducible refine (nat_size.calls k _ _ l0 t103 _ ?side1 ?side2 A2.out).mono ?_); (case side1 => repeat (first | exact HR0.out | (with_reducible refine Kd.C_alloc ?_ _) | (with_reducible refine Kd.C_drewN ?_ _) | (with_reducible refine Kd.C_drew ?_))); (case side2 => exact HC0.out); rintro e w' ⟨rfl, ⟨nd, rfl⟩⟩; refine ⟨_, rfl, ?_⟩)); go_ret; exact ⟨by first | rfl | (simp; done) | (simp [*]; done), by exact pz1⟩

/-! ### bits_Mul64: function 227 -/
def bits_Mul64.f (a0 : Int) (a1 : Int) : Option (Int × Int) := if 0 ≤ a0 ∧ a0 < 18446744073709551616 ∧ 0 ≤ a1 ∧ a1 < 18446744073709551616 then some (a0 * a1 / 18446744073709551616, a0 * a1 % 18446744073709551616) else none
theorem bits_Mul64.calls (a0 : Int) (a1 : Int) (r1 : Int) (r2 : Int) (w : World) (h : bits_Mul64.f a0 a1 = some (r1, r2)) :
    Calls Tryz.prog 227 #[.int .u64 a0, .int .u64 a1] w fun e w' => e = .returned (.tuple #[.int .u64 r1, .int .u64 r2]) ∧ Drawn0 w w' := by
  unfold bits_Mul64.f at h; split at h
  · rename_i h0
    cases h
    obtain ⟨x, rfl⟩ : ∃ x : Nat, a0 = (x : Int) := ⟨a0.toNat, by omega⟩; obtain ⟨y, rfl⟩ : ∃ y : Nat, a1 = (y : Int) := ⟨a1.toNat, by omega⟩; refine (Tryz.bits_Mul64 x y (by omega) (by omega) w).mono fun e w' hh => ⟨?_, ⟨0, hh.2⟩⟩
    rw [hh.1]; simp
  cases h

/-! ### nat_cut: function 228 -/
def nat_cut.f (k : Nat) (l0 : List Int) : Option (List Int × Int) := (nat_size.f k l0).bind fun n => if n > 4096 then some ([], 2) else (if 0 ≤ n then (if n ≤ (l0.length : Int) then some (l0.take n.toNat, 0) else none) else none)
theorem nat_cut.mono : ∀ a0 k, LeO (nat_cut.f k a0) (nat_cut.f (k + 1) a0) := by
  intro a0 k; unfold nat_cut.f; exact LeO.bind (nat_size.mono _ _) (fun _ => LeO.refl _)
set_option maxHeartbeats 2000000 in
set_option maxRecDepth 100000 in
theorem nat_cut.calls (k : Nat) (P0_ : Nat → Prop) (A0 : Option Addr) (c0 : Nat) (l0 : List Int) (r1 : List Int) (r2 : Int) (w : World) (hs0 : Kd.V (Kd.int .u64) 24 w w.heap.size (fun k_ => P0_ k_) (.slice A0 l0.length c0) l0) (h : nat_cut.f k l0 = some (r1, r2)) (HG : Aside0 (GW w) := by exact pz2) :
    Calls Tryz.prog 228 #[.slice A0 l0.length c0] w fun e w' => ∃ v0_ : Value, e = .returned (.tuple #[v0_, .int .i64 r2]) ∧ Kd.V (Kd.int .u64) 24 w' w.heap.size (fun k_ => (P0_ k_ ∨ w.heap.size ≤ k_)) v0_ r1 ∧ Below w.heap.size w w' := by
  obtain ⟨n, hn, h⟩ := Option.bind_eq_some_iff.mp h; have hr := Kd.V_reads' hs0; have hF := Kd.V_F hs0; have hc0 := hr.2.1; by_cases c1 : n > 4096
  · rw [if_pos c1] at h
    simp only [Option.some.injEq, Prod.mk.injEq] at h; obtain ⟨rfl, rfl⟩ := h; have c1b : decide (4096 < n) = true := decide_eq_true c1; go_enter Tryz.func228, Tryz.ntmps228; go_wp2_with (go_at_call 204; refine (nat_size.calls k A0 c0 l0 n _ hr.2.2 hr.2.1 hn HG).mono ?_; rintro e w' ⟨rfl, ⟨nd, rfl⟩⟩); go_ret2; exact ⟨_, rfl, Kd.V_nil _ _ _ _ _, by repeat (first | exact Below.refl _ _ | apply pw_below_drewN | apply below_drew)⟩
  rw [if_neg c1] at h; split at h
  · rename_i c2
    split at h
    · rename_i c3
      simp only [Option.some.injEq, Prod.mk.injEq] at h; obtain ⟨rfl, rfl⟩ := h; obtain ⟨m, rfl⟩ : ∃ m : Nat, n = (m : Int) := ⟨n.toNat, by omega⟩; have hm : m ≤ l0.length := by omega
      have c1b : decide (4096 < (m : Int)) = false := decide_eq_false c1; go_enter Tryz.func228, Tryz.ntmps228; go_wp2_with (go_at_call 204; refine (nat_size.calls k A0 c0 l0 m _ hr.2.2 hr.2.1 hn HG).mono ?_; rintro e w' ⟨rfl, ⟨nd, rfl⟩⟩); go_ret2; rw [Int.toNat_natCast]; have hl : (l0.take m).length = m := List.length_take_of_le hm; refine ⟨_, rfl, ⟨A0, m, by rw [hl]; rfl, by omega, ?_⟩, by repeat (first | exact Below.refl _ _ | apply pw_below_drewN | apply below_drew)⟩; exact Kd.F_mono (Kd.F_drewN (Kd.F_take hF hm) nd) (fun k hk => .inl hk)
    cases h
  cases h

/-! ### bits_Add64: function 239 -/
def bits_Add64.f (a0 : Int) (a1 : Int) (a2 : Int) : Option (Int × Int) := if 0 ≤ a0 ∧ 0 ≤ a1 ∧ 0 ≤ a2 ∧ a2 ≤ 1 then some ((a0 + a1 + a2) % 18446744073709551616, (a0 + a1 + a2) / 18446744073709551616) else none
theorem bits_Add64.calls (a0 : Int) (a1 : Int) (a2 : Int) (r1 : Int) (r2 : Int) (w : World) (h : bits_Add64.f a0 a1 a2 = some (r1, r2)) :
    ExtRun Tryz.prog 239 #[.int .u64 a0, .int .u64 a1, .int .u64 a2] w fun e w' => e = .returned (.tuple #[.int .u64 r1, .int .u64 r2]) ∧ Drawn0 w w' := by
  unfold bits_Add64.f at h; split at h
  · rename_i h0
    cases h
    have hc := Tryz.bits_Add64 a0.toNat a1.toNat a2.toNat (by omega) w; have e0 : ((a0.toNat : Nat) : Int) = a0 := by omega
    have e1 : ((a1.toNat : Nat) : Int) = a1 := by omega
    have e2 : ((a2.toNat : Nat) : Int) = a2 := by omega
    have e3 : (((a0.toNat + a1.toNat + a2.toNat) % 18446744073709551616 : Nat) : Int) = (a0 + a1 + a2) % 18446744073709551616 := by omega
    have e4 : (((a0.toNat + a1.toNat + a2.toNat) / 18446744073709551616 : Nat) : Int) = (a0 + a1 + a2) / 18446744073709551616 := by omega
    rw [e0, e1, e2, e3, e4] at hc; exact ⟨_, hc, rfl, ⟨0, rfl⟩⟩
  cases h

end Go.Proofs.YtmbacdkpgfbclaaGreatDoor.PXI
