/- The machine's side of a law, printed by a program of this session out of the translation; conditions: none. -/
import Derived.Test.YtgbjojokjekmhaaGreatDoorPXCx0
import Derived.Test.YtgbjojokjekmhaaGreatDoorPXCx1
import Derived.Test.YtgbjojokjekmhaaGreatDoorPXCx2
import Derived.Test.YtgbjojokjekmhaaGreatDoorPXCx3
import Derived.Test.YtgbjojokjekmhaaGreatDoorPXCx4
import Derived.Test.YtgbjojokjekmhaaGreatDoorPXCx5
import Derived.Test.YtgbjojokjekmhaaGreatDoorPXCx6
import Derived.Test.YtgbjojokjekmhaaGreatDoorPXCx7
import Derived.Test.YtgbjojokjekmhaaGreatDoorPXCx8D
import Derived.Test.YtgbjojokjekmhaaGreatDoorPXCx8
import Derived.Test.YtgbjojokjekmhaaGreatDoorPXCx9
import Derived.Test.YtgbjojokjekmhaaGreatDoorPXCx10
import Derived.Test.YtgbjojokjekmhaaGreatDoorPXCx11
import Derived.Test.YtgbjojokjekmhaaGreatDoorPXCx12
import Derived.Test.YtgbjojokjekmhaaGreatDoorPXCx13
import Derived.Test.YtgbjojokjekmhaaGreatDoorScanL
namespace Go.Proofs.YtgbjojokjekmhaaGreatDoor.PXD
open Go.Proofs.YtgbjojokjekmhaaGreatDoor Go.Proofs.YtgbjojokjekmhaaGreatDoor.PXC
open Go.RowKit Go.Proofs.YtgbjojokjekmhaaGreatDoorW.PrintWords Go.Proofs.YtgbjojokjekmhaaGreatDoorW.PrintLast Go.Proofs.YtgbjojokjekmhaaGreatDoorW.PrintMore
attribute [local go_sem] max2_int min2_int max_two min_two max_three min_three max_four min_four   -- for this text's walks alone
set_option linter.unusedVariables false
set_option linter.unusedSimpArgs false


theorem phDy_10 {P : Prop} (h : P := by (with_reducible repeat (first | refine blk_drewN ?_ _ | refine blk_drew ?_ | refine blk_alloc ?_ _)); exact BK330.out) : P := h
theorem phDy_11 {P : Prop} (h : P := by (with_reducible repeat (first | refine blk_drewN ?_ _ | refine blk_drew ?_ | refine blk_alloc ?_ _)); exact BK335.out) : P := h
theorem phDy_12 {P : Prop} (h : P := by repeat (first | (with_reducible first | exact HB.out | apply below_alloc | apply pw_below_drewN | apply below_drew1 | refine below_set ?_ GE335.out) | exact HB.out)) : P := h
theorem phDy_16 {P : Prop} (h : P := by repeat (first | (with_reducible first | exact HB.out | apply below_alloc | apply pw_below_drewN | apply below_drew1 | refine below_set ?_ GE330.out) | exact HB.out)) : P := h
theorem phDy_17 {P : Prop} (h : P := by repeat (first | (with_reducible first | exact HB.out | apply below_alloc | apply pw_below_drewN | apply below_drew1 | refine below_set ?_ GE330.out | refine below_set ?_ GE331.out) | exact HB.out)) : P := h
theorem phDy_18 {P : Prop} (h : P := by (with_reducible repeat (first | refine blk_drewN ?_ _ | refine blk_drew ?_ | refine blk_alloc ?_ _)); exact BK331.out) : P := h
theorem phDy_19 {P : Prop} (h : P := by (with_reducible repeat (first | refine blk_drewN ?_ _ | refine blk_drew ?_ | refine blk_alloc ?_ _)); exact BK327.out) : P := h
theorem phDy_20 {P : Prop} (h : P := by repeat (first | (with_reducible first | exact HB.out | apply below_alloc | apply pw_below_drewN | apply below_drew1 | refine below_set ?_ GE327.out) | exact HB.out)) : P := h
theorem phDy_21 {P : Prop} (h : P := by repeat (first | (with_reducible first | exact HB.out | apply below_alloc | apply pw_below_drewN | apply below_drew1 | refine below_set ?_ GE335.out | refine below_set ?_ GE342.out) | exact HB.out)) : P := h
theorem phDy_22 {P : Prop} (h : P := by repeat (first | (with_reducible first | exact HB.out | apply below_alloc | apply pw_below_drewN | apply below_drew1 | refine below_set ?_ GE350.out) | exact HB.out)) : P := h
/-! ### scan_Blank: function 98 -/
def scan_Blank.f (a0 : Int) : Option (Bool) := if a0 = 32 then (some true) else (if a0 ≥ 9 then (some (decide (a0 ≤ 13))) else (some false))
theorem scan_Blank.w1 {P : Prop} (h : P := by
  go_enter Tryz.func98, Tryz.ntmps98; go_wp2; go_ret; exact ⟨by exact pz3, by exact pz7⟩) : P := h
set_option maxHeartbeats 8000000 in
set_option maxRecDepth 100000 in
theorem scan_Blank.calls (a0 : Int) (r : Bool) (w : World) (h : scan_Blank.f a0 = some r) (HG : Aside0 (GW w) := by exact pz5) :
    Calls Tryz.prog 98 #[.int .u8 a0] w fun e w' => e = .returned (.bool r) ∧ Drawn0 w w' := by
  have H := h; clear h; unfold scan_Blank.f at H; by_cases c2 : a0 = 32
  · rw [if_pos c2] at H
    have c2b0 := beq_iff_eq.mpr c2; have c2b1 := bne_eq_false_iff_eq.mpr c2; clear c2; obtain rfl := Option.some.inj H; exact scan_Blank.w1
  rw [if_neg c2] at H; have c2b0 := beq_eq_false_iff_ne.mpr c2; have c2b1 := bne_iff_ne.mpr c2; by_cases c3 : a0 ≥ 9
  · rw [if_pos c3] at H
    have c3b0 : decide (9 ≤ a0) = true := decide_eq_true c3; clear c3; obtain rfl := Option.some.inj H; exact scan_Blank.w1
  rw [if_neg c3] at H; have c3b0 : decide (9 ≤ a0) = false := decide_eq_false c3; clear c3; obtain rfl := Option.some.inj H; exact scan_Blank.w1

/-! ### scan_blanks: function 56 -/
def scan_blanks.l0 : Nat → ByteArray → Int → Option (Int)
  | 0, _, _ => none
  | k + 1, x0, x1 => if x1 < (x0.size : Int) then (if 0 ≤ x1 then ((scan_Blank.f (bt x0 x1)).bind fun t329 => (if t329 = true then (scan_blanks.l0 k x0 (wrap64 (x1 + 1))) else (some x1))) else (none)) else (some x1)
def scan_blanks.f (k : Nat) (a0 : ByteArray) (a1 : Int) : Option (Int) := scan_blanks.l0 k a0 a1
set_option maxHeartbeats 8000000 in
set_option maxRecDepth 100000 in
theorem scan_blanks.calls (k : Nat) (a0 : ByteArray) (a1 : Int) (r : Int) (w : World) (h : scan_blanks.f k a0 a1 = some r) (HG : Aside0 (GW w) := by exact pz5) :
    Calls Tryz.prog 56 #[.string a0, .int .i64 a1] w fun e w' => e = .returned (.int .i64 r) ∧ Drawn0 w w' := by
  have H := h; clear h; unfold scan_blanks.f at H; have H' := Aside0.mk H; clear H; go_enter Tryz.func56, Tryz.ntmps56; go_wp2; go_loopg [1] k (fun kq v1 w' => ∃ (x1_1 : Int), v1 = .int .i64 x1_1 ∧ Aside0 (scan_blanks.l0 kq a0 x1_1 = some r) ∧ Aside0 (kq ≤ k) ∧ Drawn0 w w')
  case atStart => exact ⟨(a1), (by exact pz3), H', ⟨Nat.le_refl _⟩, by exact pz7⟩
  case round =>
    clear H'; obtain ⟨x1_1, rfl, HA, HK1, ⟨m1, rfl⟩⟩ := hrel; cases gk with
    | zero => exact absurd HA.out (by simp [scan_blanks.l0])
    | succ k1 =>
      have H := HA.out; clear HA; simp only [scan_blanks.l0] at H; by_cases c3 : x1_1 < (a0.size : Int)
      · rw [if_pos c3] at H
        have c3b0 := decide_eq_true c3; clear c3; by_cases c4 : 0 ≤ x1_1
        · rw [if_pos c4] at H
          have c4b0 := decide_eq_true c4; clear c4; replace H := Option.bind_eq_some_iff.mp H; obtain ⟨t329, A60, H⟩ := H; (try dsimp only at H); have A6 := Aside0.mk A60; clear A60; by_cases c7 : t329 = true
          · subst c7
            rw [if_pos rfl] at H; have H' := Aside0.mk H; clear H; have p5 : 0 ≤ (x1_1 : Int) := of_decide_eq_true (by exact pz8); have q5 : x1_1 < (a0.size : Int) := of_decide_eq_true (by exact pz8); have hx5 := bt_at a0 x1_1; replace p5 := eq_true p5; replace q5 := eq_true q5; go_wp2_with (first | (go_at_call 98; (with_reducible refine (scan_Blank.calls (bt a0 x1_1) true _ A6.out).mono ?_); rintro e w' ⟨rfl, ⟨nd, rfl⟩⟩)); go_roundg k1
            case measure => have := HK1.out; omega
            case rel => exact ⟨(wrap64 (x1_1 + 1)), (by exact pz3), H', ⟨by have := HK1.out; omega⟩, by exact pz7⟩
          replace c7 := Bool.eq_false_iff.mpr c7; subst c7; rw [if_neg (show ¬ (false = true) by decide)] at H; obtain rfl := Option.some.inj H; have p5 : 0 ≤ (x1_1 : Int) := of_decide_eq_true (by exact pz8); have q5 : x1_1 < (a0.size : Int) := of_decide_eq_true (by exact pz8); have hx5 := bt_at a0 x1_1; replace p5 := eq_true p5; replace q5 := eq_true q5; go_wp2_with (first | (go_at_call 98; (with_reducible refine (scan_Blank.calls (bt a0 x1_1) false _ A6.out).mono ?_); rintro e w' ⟨rfl, ⟨nd, rfl⟩⟩)); go_ret; exact ⟨by exact pz3, by exact pz7⟩
        rw [if_neg c4] at H; exact absurd H (by simp)
      rw [if_neg c3] at H; have c3b0 := decide_eq_false c3; clear c3; obtain rfl := Option.some.inj H; go_wp2; go_ret; exact ⟨by exact pz3, by exact pz7⟩

/-! ### scan_literal: function 96 -/
def scan_literal.f (a0 : ByteArray) (a1 : Int) : Option (Bool × ByteArray × Int × Int × Bool) := if 0 ≤ a1 ∧ a1 ≤ (a0.size : Int) ∧ a0.size ≤ 140737488355328 then some (Num.litF a0.data.toList a1.toNat) else none
theorem scan_literal.calls (a0 : ByteArray) (a1 : Int) (r1 : Bool) (r2 : ByteArray) (r3 : Int) (r4 : Int) (r5 : Bool) (w : World) (h : scan_literal.f a0 a1 = some (r1, r2, r3, r4, r5)) :
    Calls Tryz.prog 96 #[.string a0, .int .i64 a1] w fun e w' => e = .returned (.tuple #[.agg #[.bool r1, .string r2, .int .i64 r3], .int .i64 r4, .bool r5]) ∧ Below w.heap.size w w' := by
  unfold scan_literal.f at h; split at h
  · rename_i h0
    exact literal_walk a0 a1 w h0.1 h0.2.1 h0.2.2 (Option.some.inj h)
  cases h

/-! ### strings_TrimLeft: function 146 -/
def strings_TrimLeft.f (a0 : ByteArray) (a1 : ByteArray) : Option ByteArray := if a1 = ⟨#[48]⟩ then some ⟨(Lib.trimLeftB a0.data.toList 48).toArray⟩ else none
theorem strings_TrimLeft.calls (a0 : ByteArray) (a1 : ByteArray) (r : ByteArray) (w : World) (h : strings_TrimLeft.f a0 a1 = some r) :
    Calls Tryz.prog 146 #[.string a0, .string a1] w fun e w' => e = .returned (.string r) ∧ Drawn0 w w' := by
  unfold strings_TrimLeft.f at h; split at h
  · rename_i h0
    subst h0; cases h
    exact (Tryz.strings_TrimLeft_one a0 48 (by decide) w).mono fun e w' hh => ⟨hh.1, ⟨0, hh.2⟩⟩
  cases h

/-! ### strings_Clone: function 147 -/
def strings_Clone.f (a0 : ByteArray) : Option ByteArray := if a0.size ≤ 281474976710656 then some a0 else none
theorem strings_Clone.calls (a0 : ByteArray) (r : ByteArray) (w : World) (h : strings_Clone.f a0 = some r) :
    Calls Tryz.prog 147 #[.string a0] w fun e w' => e = .returned (.string r) ∧ Below w.heap.size w w' := by
  unfold strings_Clone.f at h; split at h
  · rename_i h0
    cases h
    go_enter Tryz.func147, Tryz.ntmps147; go_wp2_with (go_at_call 188; refine (Tryz.stringslite_Clone a0 _ h0).mono ?_; rintro e w1 ⟨rfl, hb1⟩); go_ret; exact ⟨rfl, hb1⟩
  cases h

/-! ### scan_normal: function 97 -/
def scan_normal.f (a0_0 : Bool) (a0_1 : ByteArray) (a0_2 : Int) : Option (Bool × ByteArray × Int) := (strings_TrimLeft.f a0_1 (⟨#[48]⟩ : ByteArray)).bind fun t332 => (if t332.toList = ([] : List UInt8) then (some (a0_0, (⟨#[48]⟩ : ByteArray), 0)) else ((strings_TrimRight.f t332 (⟨#[48]⟩ : ByteArray)).bind fun t333 => ((strings_Clone.f t333).bind fun t334 => (some (a0_0, t334, wrap64 ((wrap64 (a0_2 + (t332.size : Int))) - (t333.size : Int)))))))
def scan_normal.T5 : Bool × List (List Nat × List Nat) := (true, [([], []), ([0], [0]), ([], []), ([2], [2]), ([], []), ([4], [4]), ([], []), ([6], [6]), ([5, 7], [5, 7]), ([], []), ([9], [9]), ([8, 10], [8, 10]), ([1, 3, 11], [1, 3, 11]), ([12, 3, 0, 1, 2, 3, 4, 5, 6, 7, 8, 9, 10, 11, 12], [12])])
def scan_normal.B5 : List Nat := [0, 1, 0, 4, 0, 16, 0, 64, 240, 0, 512, 2032, 4095, 8191]
theorem scan_normal.tab5 : rtab .any (opsOf Tryz.f97 5) = scan_normal.T5 := by kernel_rfl
theorem scan_normal.bits5 : waitsOk scan_normal.T5.2 scan_normal.B5 = true := by kernel_rfl
set_option maxHeartbeats 8000000 in
set_option maxRecDepth 100000 in
theorem scan_normal.calls (a0_0 : Bool) (a0_1 : ByteArray) (a0_2 : Int) (r1 : Bool) (r2 : ByteArray) (r3 : Int) (w : World) (h : scan_normal.f a0_0 a0_1 a0_2 = some (r1, r2, r3)) (HG : Aside0 (GW w) := by exact pz5) :
    Calls Tryz.prog 97 #[.agg #[.bool a0_0, .string a0_1, .int .i64 a0_2]] w fun e w' => e = .returned (.agg #[.bool r1, .string r2, .int .i64 r3]) ∧ Below w.heap.size w w' := by
  have hu46 := Tryz.underlying46; have HB := Aside0.mk (Below.refl w.heap.size w); have H := h; clear h; unfold scan_normal.f at H; replace H := Option.bind_eq_some_iff.mp H; obtain ⟨t332, A20, H⟩ := H; (try dsimp only at H); have A2 := Aside0.mk A20; clear A20; by_cases c3 : t332.toList = ([] : List UInt8)
  · rw [if_pos c3] at H
    have c3b0 := beq_iff_eq.mpr c3; have c3b1 := bne_eq_false_iff_eq.mpr c3; clear c3; simp only [Option.some.injEq, Prod.mk.injEq] at H; obtain ⟨rfl, rfl, rfl⟩ := H; go_enter Tryz.func97, Tryz.ntmps97; go_wp2_with (first | ((with_reducible refine gate_dst (N := 1) rfl ?_); refine box_event ?hg (N := 1) ?hd (cs := #[.bool a0_0, .string a0_1, .int .i64 a0_2]) (t := 46) ?hr ?_; (case hd => rfl); (case hg => rfl); (case hr => first | (go_simp; done) | (go_simp; rfl)); intro gb330 hg w4 hbox hb; have n0_ := Aside0.mk (below_step (by exact pz1) hb); have n1_ := Aside0.mk (hbox); have n2_ := Aside0.mk ((by rw [hg]; exact (below_size (by exact pz1)) : w.heap.size ≤ gb330)); have n3_ := Aside0.mk ((by rw [hg]; exact (below_size (by exact pz1)) : w.heap.size ≤ gb330)); clear HB; have HB := n0_; have BK330 := n1_; have GW330 := n2_; have GE330 := n3_; clear n0_ n1_ n2_ n3_; clear hb hbox hg) | ((with_reducible refine gate_dst (N := 2) rfl ?_); refine box_event ?hg (N := 2) ?hd (cs := #[.bool false, .string (⟨#[]⟩ : ByteArray), .int .i64 0]) (t := 46) ?hr ?_; (case hd => rfl); (case hg => rfl); (case hr => first | (go_simp; done) | (go_simp; rfl)); intro gb331 hg w5 hbox hb; have n0_ := Aside0.mk (blk_below (g := gb330) (o := .cells #[.bool a0_0, .string a0_1, .int .i64 a0_2] 46 (0, 0)) (by exact phDy_10) hb); have n1_ := Aside0.mk (below_step (by exact phDy_16) hb); have n2_ := Aside0.mk (hbox); have n3_ := Aside0.mk ((by rw [hg]; exact (below_size (by exact phDy_16)) : w.heap.size ≤ gb331)); have n4_ := Aside0.mk ((by rw [hg]; exact (below_size (by exact phDy_16)) : w.heap.size ≤ gb331)); have n5_ := Aside0.mk ((by rw [hg]; exact Nat.ne_of_lt (blk_lt (g := gb330) (o := .cells #[.bool a0_0, .string a0_1, .int .i64 a0_2] 46 (0, 0)) (by exact phDy_10)) : gb330 ≠ gb331)); have n6_ := Aside0.mk ((by rw [hg]; exact Nat.ne_of_gt (blk_lt (g := gb330) (o := .cells #[.bool a0_0, .string a0_1, .int .i64 a0_2] 46 (0, 0)) (by exact phDy_10)) : gb331 ≠ gb330)); clear BK330; clear HB; have BK330 := n0_; have HB := n1_; have BK331 := n2_; have GW331 := n3_; have GE331 := n4_; have NB330_331 := n5_; have NB331_330 := n6_; clear n0_ n1_ n2_ n3_ n4_ n5_ n6_; clear hb hbox hg; have hnb6 := NB330_331.out; have hnc6 := NB331_330.out; obtain ⟨hcz7_0, hcz7_1, hcz7_2, hfz7_0, hfz7_1, hfz7_2⟩ := bk3 BK330.out) | ((with_reducible refine gate_callee (f := 146) rfl ?_); refine goesL_ (some 7) rfl rfl Tryz.func146 (by kernel_rfl) rfl #[.string a0_1, .string (⟨#[48]⟩ : ByteArray)] rfl (by exact pz4) ?_; (with_reducible refine (strings_TrimLeft.calls a0_1 (⟨#[48]⟩ : ByteArray) t332 _ A2.out).mono ?_); rintro e w' ⟨rfl, ⟨nd, rfl⟩⟩; refine ⟨_, rfl, ?_⟩; (try (rw [drewN_self w5]; generalize hq_ : World.drewN w5 _ = w5; have n0_ : Aside0 (w5.heap[gb330]? = some (.cells #[.bool a0_0, .string a0_1, .int .i64 a0_2] 46 (0, 0))) := ⟨by rw [← hq_]; exact (by exact phDy_10)⟩; have n1_ : Aside0 (w5.heap[gb331]? = some (.cells #[.bool false, .string (⟨#[]⟩ : ByteArray), .int .i64 0] 46 (0, 0))) := ⟨by rw [← hq_]; exact (by exact phDy_18)⟩; have n2_ : Aside0 (Below w.heap.size w w5) := ⟨by rw [← hq_]; exact (by exact phDy_17)⟩; clear BK330 BK331 HB hq_; have BK330 := n0_; have BK331 := n1_; have HB := n2_; clear n0_ n1_ n2_)); obtain ⟨hcz8_0, hcz8_1, hcz8_2, hfz8_0, hfz8_1, hfz8_2⟩ := bk3 BK331.out; have hcy8_0 : w5.cell? ⟨gb330, 0, none⟩ = some (.bool a0_0) := (blk_cell BK330.out 0).trans rfl)); refine bodyPost_ret (results_cell_row rfl _ _ gb331 46 #[.bool a0_0, .string (⟨#[48]⟩ : ByteArray), .int .i64 0] (0, 0) _ rfl (by (with_reducible repeat (first | refine blk_drewN ?_ _ | refine blk_drew ?_ | refine blk_alloc ?_ _)); refine blk_put (cs := #[.bool a0_0, .string (⟨#[48]⟩ : ByteArray), .int .i64 0]) ?_ 2 _ (by exact pz10); (with_reducible repeat (first | refine blk_drewN ?_ _ | refine blk_drew ?_ | refine blk_alloc ?_ _)); refine blk_put (cs := #[.bool a0_0, .string (⟨#[]⟩ : ByteArray), .int .i64 0]) ?_ 1 _ (by exact pz10); (with_reducible repeat (first | refine blk_drewN ?_ _ | refine blk_drew ?_ | refine blk_alloc ?_ _)); refine blk_put (cs := #[.bool false, .string (⟨#[]⟩ : ByteArray), .int .i64 0]) ?_ 0 _ (by exact pz10); (with_reducible repeat (first | refine blk_drewN ?_ _ | refine blk_drew ?_ | refine blk_alloc ?_ _)); exact BK331.out) Tryz.underlying46 rfl (by kernel_rfl)) rfl ?_; exact ⟨by exact pz2, by exact phDy_17⟩
  rw [if_neg c3] at H; have c3b0 := beq_eq_false_iff_ne.mpr c3; have c3b1 := bne_iff_ne.mpr c3; replace H := Option.bind_eq_some_iff.mp H; obtain ⟨t333, A90, H⟩ := H; (try dsimp only at H); have A9 := Aside0.mk A90; clear A90; replace H := Option.bind_eq_some_iff.mp H; obtain ⟨t334, A100, H⟩ := H; (try dsimp only at H); have A10 := Aside0.mk A100; clear A100; simp only [Option.some.injEq, Prod.mk.injEq] at H; obtain ⟨rfl, rfl, rfl⟩ := H; go_enter Tryz.func97, Tryz.ntmps97; (try go_wp2_with (first | ((with_reducible refine gate_dst (N := 1) rfl ?_); refine box_event ?hg (N := 1) ?hd (cs := #[.bool a0_0, .string a0_1, .int .i64 a0_2]) (t := 46) ?hr ?_; (case hd => rfl); (case hg => rfl); (case hr => first | (go_simp; done) | (go_simp; rfl)); intro gb330 hg w11 hbox hb; have n0_ := Aside0.mk (below_step (by exact pz1) hb); have n1_ := Aside0.mk (hbox); have n2_ := Aside0.mk ((by rw [hg]; exact (below_size (by exact pz1)) : w.heap.size ≤ gb330)); have n3_ := Aside0.mk ((by rw [hg]; exact (below_size (by exact pz1)) : w.heap.size ≤ gb330)); clear HB; have HB := n0_; have BK330 := n1_; have GW330 := n2_; have GE330 := n3_; clear n0_ n1_ n2_ n3_; clear hb hbox hg) | ((with_reducible refine gate_dst (N := 2) rfl ?_); refine box_event ?hg (N := 2) ?hd (cs := #[.bool false, .string (⟨#[]⟩ : ByteArray), .int .i64 0]) (t := 46) ?hr ?_; (case hd => rfl); (case hg => rfl); (case hr => first | (go_simp; done) | (go_simp; rfl)); intro gb331 hg w12 hbox hb; have n0_ := Aside0.mk (blk_below (g := gb330) (o := .cells #[.bool a0_0, .string a0_1, .int .i64 a0_2] 46 (0, 0)) (by exact phDy_10) hb); have n1_ := Aside0.mk (below_step (by exact phDy_16) hb); have n2_ := Aside0.mk (hbox); have n3_ := Aside0.mk ((by rw [hg]; exact (below_size (by exact phDy_16)) : w.heap.size ≤ gb331)); have n4_ := Aside0.mk ((by rw [hg]; exact (below_size (by exact phDy_16)) : w.heap.size ≤ gb331)); have n5_ := Aside0.mk ((by rw [hg]; exact Nat.ne_of_lt (blk_lt (g := gb330) (o := .cells #[.bool a0_0, .string a0_1, .int .i64 a0_2] 46 (0, 0)) (by exact phDy_10)) : gb330 ≠ gb331)); have n6_ := Aside0.mk ((by rw [hg]; exact Nat.ne_of_gt (blk_lt (g := gb330) (o := .cells #[.bool a0_0, .string a0_1, .int .i64 a0_2] 46 (0, 0)) (by exact phDy_10)) : gb331 ≠ gb330)); clear BK330; clear HB; have BK330 := n0_; have HB := n1_; have BK331 := n2_; have GW331 := n3_; have GE331 := n4_; have NB330_331 := n5_; have NB331_330 := n6_; clear n0_ n1_ n2_ n3_ n4_ n5_ n6_; clear hb hbox hg; have hnb13 := NB330_331.out; have hnc13 := NB331_330.out; obtain ⟨hcz14_0, hcz14_1, hcz14_2, hfz14_0, hfz14_1, hfz14_2⟩ := bk3 BK330.out) | ((with_reducible refine gate_callee (f := 146) rfl ?_); refine goesL_ (some 7) rfl rfl Tryz.func146 (by kernel_rfl) rfl #[.string a0_1, .string (⟨#[48]⟩ : ByteArray)] rfl (by exact pz4) ?_; (with_reducible refine (strings_TrimLeft.calls a0_1 (⟨#[48]⟩ : ByteArray) t332 _ A2.out).mono ?_); rintro e w' ⟨rfl, ⟨nd, rfl⟩⟩; refine ⟨_, rfl, ?_⟩; (try (rw [drewN_self w12]; generalize hq_ : World.drewN w12 _ = w12; have n0_ : Aside0 (w12.heap[gb330]? = some (.cells #[.bool a0_0, .string a0_1, .int .i64 a0_2] 46 (0, 0))) := ⟨by rw [← hq_]; exact (by exact phDy_10)⟩; have n1_ : Aside0 (w12.heap[gb331]? = some (.cells #[.bool false, .string (⟨#[]⟩ : ByteArray), .int .i64 0] 46 (0, 0))) := ⟨by rw [← hq_]; exact (by exact phDy_18)⟩; have n2_ : Aside0 (Below w.heap.size w w12) := ⟨by rw [← hq_]; exact (by exact phDy_17)⟩; clear BK330 BK331 HB hq_; have BK330 := n0_; have BK331 := n1_; have HB := n2_; clear n0_ n1_ n2_))) | ((with_reducible refine gate_callee (f := 65) rfl ?_); refine goesL_ (some 14) rfl rfl Tryz.func65 (by kernel_rfl) rfl #[.string t332, .string (⟨#[48]⟩ : ByteArray)] rfl (by exact pz4) ?_; (with_reducible refine (strings_TrimRight.calls t332 (⟨#[48]⟩ : ByteArray) t333 _ A9.out).mono ?_); rintro e w' ⟨rfl, ⟨nd, rfl⟩⟩; refine ⟨_, rfl, ?_⟩; (try (rw [drewN_self w12]; generalize hq_ : World.drewN w12 _ = w12; have n0_ : Aside0 (w12.heap[gb330]? = some (.cells #[.bool a0_0, .string a0_1, .int .i64 a0_2] 46 (0, 0))) := ⟨by rw [← hq_]; exact (by exact phDy_10)⟩; have n1_ : Aside0 (w12.heap[gb331]? = some (.cells #[.bool false, .string (⟨#[]⟩ : ByteArray), .int .i64 0] 46 (0, 0))) := ⟨by rw [← hq_]; exact (by exact phDy_18)⟩; have n2_ : Aside0 (Below w.heap.size w w12) := ⟨by rw [← hq_]; exact (by exact phDy_17)⟩; clear BK330 BK331 HB hq_; have BK330 := n0_; have BK331 := n1_; have HB := n2_; clear n0_ n1_ n2_))))); have n0_ := Aside0.mk (blk_drew BK330.out); have n1_ := Aside0.mk (blk_drew BK331.out); have n2_ := Aside0.mk (below_drew1 HB.out); clear BK330; clear BK331; clear HB; have BK330 := n0_; have BK331 := n1_; have HB := n2_; clear n0_ n1_ n2_; refine start_ (n := 14) (S := fun w' => w'.cell? ⟨gb330, 0, none⟩ = some (.bool a0_0) ∧ w'.cell? ⟨gb330, 1, none⟩ = some (.string a0_1) ∧ w'.cell? ⟨gb330, 2, none⟩ = some (.int .i64 a0_2)) (ds := []) #[false, false, false, false, false, false, false, false, false, false, false, false, false, false] (by kernel_rfl) rfl rfl ⟨(blk_cell BK330.out 0).trans rfl, (blk_cell BK330.out 1).trans rfl, (blk_cell BK330.out 2).trans rfl⟩ (fun hHeld => ?_); refine with_tabW scan_normal.tab5 scan_normal.bits5 (fun HT_ HW_ => ?_); generalize w12.drew = w15 at BK330 BK331 HB hHeld ⊢; refine pure_ (i := 0) (N := some 15) (v := ?_) (a' := ?_) #[true, false, false, false, false, false, false, false, false, false, false, false, false, false] rfl rfl (any_of HT_.out (by kernel_rfl)) (fun _ _ _ h => h) (Or.inl ⟨by rfl, ?_⟩) ?_ ?_; rotate_left
  · intro w'
    go_simp
    with_reducible rfl
  rotate_left
  · simp only [Act.put, List.setIfInBounds_toArray, List.set_cons_zero, List.set_cons_succ, i64_w, i32_w]
    rfl
  refine pure_ (i := 2) (N := some 17) (v := ?_) (a' := ?_) #[true, false, true, false, false, false, false, false, false, false, false, false, false, false] rfl rfl (any_of HT_.out (by kernel_rfl)) (fun _ _ _ h => h) (Or.inl ⟨by rfl, ?_⟩) ?_ ?_; rotate_left
  · intro w'
    go_simp
    with_reducible rfl
  rotate_left
  · simp only [Act.put, List.setIfInBounds_toArray, List.set_cons_zero, List.set_cons_succ, i64_w, i32_w]
    rfl
  refine pure_ (i := 4) (N := some 19) (v := ?_) (a' := ?_) #[true, false, true, false, true, false, false, false, false, false, false, false, false, false] rfl rfl (any_of HT_.out (by kernel_rfl)) (fun _ _ _ h => h) (Or.inl ⟨by rfl, ?_⟩) ?_ ?_; rotate_left
  · intro w'
    go_simp
    with_reducible rfl
  rotate_left
  · simp only [Act.put, List.setIfInBounds_toArray, List.set_cons_zero, List.set_cons_succ, i64_w, i32_w]
    rfl
  refine pure_ (i := 6) (N := some 21) (v := ?_) (a' := ?_) #[true, false, true, false, true, false, true, false, false, false, false, false, false, false] rfl rfl (any_of HT_.out (by kernel_rfl)) (fun _ _ _ h => h) (Or.inl ⟨by rfl, ?_⟩) ?_ ?_; rotate_left
  · intro w'
    go_simp
    with_reducible rfl
  rotate_left
  · simp only [Act.put, List.setIfInBounds_toArray, List.set_cons_zero, List.set_cons_succ, i64_w, i32_w]
    rfl
  refine pure_ (i := 7) (N := some 22) (v := ?_) (a' := ?_) #[true, false, true, false, true, false, true, true, false, false, false, false, false, false] rfl rfl (any_of HT_.out (by kernel_rfl)) (fun _ _ _ h => h) (Or.inl ⟨by rfl, ?_⟩) ?_ ?_; rotate_left
  · intro w'
    go_simp
    with_reducible rfl
  rotate_left
  · simp only [Act.put, List.setIfInBounds_toArray, List.set_cons_zero, List.set_cons_succ, i64_w, i32_w]
    rfl
  refine pure_ (i := 9) (N := some 24) (v := ?_) (a' := ?_) #[true, false, true, false, true, false, true, true, false, true, false, false, false, false] rfl rfl (any_of HT_.out (by kernel_rfl)) (fun _ _ _ h => h) (Or.inl ⟨by rfl, ?_⟩) ?_ ?_; rotate_left
  · intro w'
    go_simp
    with_reducible rfl
  rotate_left
  · simp only [Act.put, List.setIfInBounds_toArray, List.set_cons_zero, List.set_cons_succ, i64_w, i32_w]
    rfl
  refine pure_ (i := 10) (N := some 25) (v := ?_) (a' := ?_) #[true, false, true, false, true, false, true, true, false, true, true, false, false, false] rfl rfl (any_of HT_.out (by kernel_rfl)) (fun _ _ _ h => h) (Or.inl ⟨by rfl, ?_⟩) ?_ ?_; rotate_left
  · intro w'
    go_simp
    with_reducible rfl
  rotate_left
  · simp only [Act.put, List.setIfInBounds_toArray, List.set_cons_zero, List.set_cons_succ, i64_w, i32_w]
    rfl
  refine take_ (i := 1) (N := some 16) (v := ?_) (a' := ?_) #[true, true, true, false, true, false, true, true, false, true, true, false, false, false] rfl rfl (take_ofW HT_.out HW_.out (by kernel_rfl)) (fun _ _ _ h => h) (Or.inl ⟨by rfl, ?_⟩) hHeld ?_ ?_; rotate_left
  · rintro w' ⟨s0, s1, s2⟩
    go_simp
    with_reducible rfl
  rotate_left
  · simp only [Act.put, List.setIfInBounds_toArray, List.set_cons_zero, List.set_cons_succ, i64_w, i32_w]
    rfl
  refine take_ (i := 5) (N := some 20) (v := ?_) (a' := ?_) #[true, true, true, false, true, true, true, true, false, true, true, false, false, false] rfl rfl (take_ofW HT_.out HW_.out (by kernel_rfl)) (fun _ _ _ h => h) (Or.inl ⟨by rfl, ?_⟩) hHeld ?_ ?_; rotate_left
  · rintro w' ⟨s0, s1, s2⟩
    go_simp
    with_reducible rfl
  rotate_left
  · simp only [Act.put, List.setIfInBounds_toArray, List.set_cons_zero, List.set_cons_succ, i64_w, i32_w]
    rfl
  refine pure_ (i := 8) (N := some 23) (v := ?_) (a' := ?_) #[true, true, true, false, true, true, true, true, true, true, true, false, false, false] rfl rfl (any_of HT_.out (by kernel_rfl)) (fun _ _ _ h => h) (Or.inl ⟨by rfl, ?_⟩) ?_ ?_; rotate_left
  · intro w'
    go_simp
    with_reducible rfl
  rotate_left
  · simp only [Act.put, List.setIfInBounds_toArray, List.set_cons_zero, List.set_cons_succ, i64_w, i32_w]
    rfl
  refine pure_ (i := 11) (N := some 26) (v := ?_) (a' := ?_) #[true, true, true, false, true, true, true, true, true, true, true, true, false, false] rfl rfl (any_of HT_.out (by kernel_rfl)) (fun _ _ _ h => h) (Or.inl ⟨by rfl, ?_⟩) ?_ ?_; rotate_left
  · intro w'
    go_simp
    with_reducible rfl
  rotate_left
  · simp only [Act.put, List.setIfInBounds_toArray, List.set_cons_zero, List.set_cons_succ, i64_w, i32_w]
    rfl
  refine one_ (i := 3) (N := some 18) #[true, true, true, true, true, true, true, true, true, true, true, true, false, false] rfl rfl (one_of HT_.out (by kernel_rfl)) (by decide) (fun K hK => ?_); refine goes_ Tryz.func147 (by kernel_rfl) rfl #[.string t333] (by rfl) rfl rfl (by exact pz4) ?_; with_reducible refine (strings_Clone.calls t333 t334 _ A10.out).mono ?_
  rintro e w16 ⟨rfl, hb⟩; refine ⟨_, rfl, ?_⟩; have n0_ := Aside0.mk (blk_below (g := gb330) (o := .cells #[.bool a0_0, .string a0_1, .int .i64 a0_2] 46 (0, 0)) (by exact phDy_10) hb); have n1_ := Aside0.mk (blk_below (g := gb331) (o := .cells #[.bool false, .string (⟨#[]⟩ : ByteArray), .int .i64 0] 46 (0, 0)) (by exact phDy_18) hb); have n2_ := Aside0.mk (below_step (by exact phDy_17) hb); clear BK330; clear BK331; clear HB; have BK330 := n0_; have BK331 := n1_; have HB := n2_; clear n0_ n1_ n2_; (try clear hb)
  refine hK.out _ _ ⟨(blk_cell BK330.out 0).trans rfl, (blk_cell BK330.out 1).trans rfl, (blk_cell BK330.out 2).trans rfl⟩ (fun hHeld => ?_); clear hK K; refine norm_ (a' := ?_) ?_ ?_; rotate_left
  · show Act.put _ (some 18) _ = _
    simp only [Act.put, List.setIfInBounds_toArray, List.set_cons_zero, List.set_cons_succ, i64_w, i32_w]; rfl
  refine pure_ (i := 12) (N := some 27) (v := ?_) (a' := ?_) #[true, true, true, true, true, true, true, true, true, true, true, true, true, false] rfl rfl (any_of HT_.out (by kernel_rfl)) (fun _ _ _ h => h) (Or.inl ⟨by rfl, ?_⟩) ?_ ?_; rotate_left
  · intro w'
    go_simp
    with_reducible rfl
  rotate_left
  · simp only [Act.put, List.setIfInBounds_toArray, List.set_cons_zero, List.set_cons_succ, i64_w, i32_w]
    rfl
  refine one_ (i := 13) (N := none) #[true, true, true, true, true, true, true, true, true, true, true, true, true, true] rfl rfl (one_of HT_.out (by kernel_rfl)) (by decide) (fun K hK => ?_); have hs17 : w16.cell? ⟨gb331, 0, none⟩ = some (.bool false) := (blk_cell BK331.out 0).trans rfl; have hfs17 := blk_frozen BK331.out 0; have hns17_0 := NB330_331.out; have hms17_0 := NB331_330.out; have hs18 : w16.cell? ⟨gb331, 1, none⟩ = some (.string (⟨#[]⟩ : ByteArray)) := (blk_cell BK331.out 1).trans rfl; have hfs18 := blk_frozen BK331.out 1; have hns18_0 := NB330_331.out; have hms18_0 := NB331_330.out; have hs19 : w16.cell? ⟨gb331, 2, none⟩ = some (.int .i64 0) := (blk_cell BK331.out 2).trans rfl; have hfs19 := blk_frozen BK331.out 2; have hns19_0 := NB330_331.out; have hms19_0 := NB331_330.out; refine skip_ (w1 := ?_) (by rfl) rfl ?_ ?_; rotate_left
  · go_simp
    rfl
  refine hK.out _ _ ⟨((cell_far (p := ⟨gb331, _, none⟩) NB330_331.out _).trans (((cell_far (p := ⟨gb331, _, none⟩) NB330_331.out _).trans (((cell_far (p := ⟨gb331, _, none⟩) NB330_331.out _).trans (hHeld.1)))))), ((cell_far (p := ⟨gb331, _, none⟩) NB330_331.out _).trans (((cell_far (p := ⟨gb331, _, none⟩) NB330_331.out _).trans (((cell_far (p := ⟨gb331, _, none⟩) NB330_331.out _).trans (hHeld.2.1)))))), ((cell_far (p := ⟨gb331, _, none⟩) NB330_331.out _).trans (((cell_far (p := ⟨gb331, _, none⟩) NB330_331.out _).trans (((cell_far (p := ⟨gb331, _, none⟩) NB330_331.out _).trans (hHeld.2.2))))))⟩ (fun hHeld => ?_); clear hK K; refine done_ (done_of HT_.out (by kernel_rfl)) ?_; (try go_wp2); refine bodyPost_ret (results_cell_row rfl _ _ gb331 46 #[.bool a0_0, .string t334, .int .i64 (wrap64 ((wrap64 (a0_2 + (t332.size : Int))) - (t333.size : Int)))] (0, 0) _ rfl (by (with_reducible repeat (first | refine blk_drewN ?_ _ | refine blk_drew ?_ | refine blk_alloc ?_ _)); refine blk_put (cs := #[.bool a0_0, .string t334, .int .i64 0]) ?_ 2 _ (by exact pz10); (with_reducible repeat (first | refine blk_drewN ?_ _ | refine blk_drew ?_ | refine blk_alloc ?_ _)); refine blk_put (cs := #[.bool a0_0, .string (⟨#[]⟩ : ByteArray), .int .i64 0]) ?_ 1 _ (by exact pz10); (with_reducible repeat (first | refine blk_drewN ?_ _ | refine blk_drew ?_ | refine blk_alloc ?_ _)); refine blk_put (cs := #[.bool false, .string (⟨#[]⟩ : ByteArray), .int .i64 0]) ?_ 0 _ (by exact pz10); (with_reducible repeat (first | refine blk_drewN ?_ _ | refine blk_drew ?_ | refine blk_alloc ?_ _)); exact BK331.out) Tryz.underlying46 rfl (by kernel_rfl)) rfl ?_; exact ⟨by exact pz2, by exact phDy_17⟩

/-! ### scan_Number: function 55 -/
def scan_Number.f (k : Nat) (a0 : ByteArray) : Option (Bool × ByteArray × Int × Int) := (scan_blanks.f k a0 0).bind fun t336 => ((scan_literal.f a0 t336).bind fun bt337 => (if bt337.2.2.2.2 = true then ((scan_normal.f bt337.1 bt337.2.1 bt337.2.2.1).bind fun bt343 => (some (bt343.1, bt343.2.1, bt343.2.2, bt337.2.2.2.1))) else (some (false, (⟨#[]⟩ : ByteArray), 0, 0))))
set_option maxHeartbeats 8000000 in
set_option maxRecDepth 100000 in
theorem scan_Number.calls (k : Nat) (a0 : ByteArray) (r1 : Bool) (r2 : ByteArray) (r3 : Int) (r4 : Int) (w : World) (h : scan_Number.f k a0 = some (r1, r2, r3, r4)) (HG : Aside0 (GW w) := by exact pz5) :
    Calls Tryz.prog 55 #[.string a0] w fun e w' => e = .returned (.tuple #[.agg #[.bool r1, .string r2, .int .i64 r3], .int .i64 r4]) ∧ Below w.heap.size w w' := by
  have hu46 := Tryz.underlying46; have HB := Aside0.mk (Below.refl w.heap.size w); have H := h; clear h; unfold scan_Number.f at H; replace H := Option.bind_eq_some_iff.mp H; obtain ⟨t336, A20, H⟩ := H; (try dsimp only at H); have A2 := Aside0.mk A20; clear A20; replace H := Option.bind_eq_some_iff.mp H; obtain ⟨⟨t337, t338, t339, t340, t341⟩, A30, H⟩ := H; (try dsimp only at H); have A3 := Aside0.mk A30; clear A30; by_cases c4 : t341 = true
  · subst c4
    rw [if_pos rfl] at H; replace H := Option.bind_eq_some_iff.mp H; obtain ⟨⟨t343, t344, t345⟩, A50, H⟩ := H; (try dsimp only at H); have A5 := Aside0.mk A50; clear A50; simp only [Option.some.injEq, Prod.mk.injEq] at H; obtain ⟨rfl, rfl, rfl, rfl⟩ := H; go_enter Tryz.func55, Tryz.ntmps55; go_wp2_with (first | ((with_reducible refine gate_dst (N := 2) rfl ?_); refine box_event ?hg (N := 2) ?hd (cs := #[.bool false, .string (⟨#[]⟩ : ByteArray), .int .i64 0]) (t := 46) ?hr ?_; (case hd => rfl); (case hg => rfl); (case hr => first | (go_simp; done) | (go_simp; rfl)); intro gb335 hg w6 hbox hb; have n0_ := Aside0.mk (below_step (by exact pz1) hb); have n1_ := Aside0.mk (hbox); have n2_ := Aside0.mk ((by rw [hg]; exact (below_size (by exact pz1)) : w.heap.size ≤ gb335)); have n3_ := Aside0.mk ((by rw [hg]; exact (below_size (by exact pz1)) : w.heap.size ≤ gb335)); clear HB; have HB := n0_; have BK335 := n1_; have GW335 := n2_; have GE335 := n3_; clear n0_ n1_ n2_ n3_; clear hb hbox hg) | ((with_reducible refine gate_callee (f := 56) rfl ?_); refine goesL_ (some 10) rfl rfl Tryz.func56 (by kernel_rfl) rfl #[.string a0, .int .i64 0] rfl (by exact pz4) ?_; (with_reducible refine (scan_blanks.calls k a0 0 t336 _ A2.out).mono ?_); rintro e w' ⟨rfl, ⟨nd, rfl⟩⟩; refine ⟨_, rfl, ?_⟩; (try (rw [drewN_self w6]; generalize hq_ : World.drewN w6 _ = w6; have n0_ : Aside0 (w6.heap[gb335]? = some (.cells #[.bool false, .string (⟨#[]⟩ : ByteArray), .int .i64 0] 46 (0, 0))) := ⟨by rw [← hq_]; exact (by exact phDy_11)⟩; have n1_ : Aside0 (Below w.heap.size w w6) := ⟨by rw [← hq_]; exact (by exact phDy_12)⟩; clear BK335 HB hq_; have BK335 := n0_; have HB := n1_; clear n0_ n1_))) | ((with_reducible refine gate_callee (f := 96) rfl ?_); refine goesL_ (some 11) rfl rfl Tryz.func96 (by kernel_rfl) rfl #[.string a0, .int .i64 t336] rfl (by exact pz4) ?_; (with_reducible refine (scan_literal.calls a0 t336 t337 t338 t339 t340 true _ A3.out).mono ?_); rintro e w7 ⟨rfl, hb⟩; refine ⟨_, rfl, ?_⟩; have n0_ := Aside0.mk (blk_below (g := gb335) (o := .cells #[.bool false, .string (⟨#[]⟩ : ByteArray), .int .i64 0] 46 (0, 0)) (by exact phDy_11) hb); have n1_ := Aside0.mk (below_step (by exact phDy_12) hb); clear BK335; clear HB; have BK335 := n0_; have HB := n1_; clear n0_ n1_; (try clear hb); ) | ((with_reducible refine gate_dst (N := 4) rfl ?_); refine box_event ?hg (N := 4) ?hd (cs := #[.bool false, .string (⟨#[]⟩ : ByteArray), .int .i64 0]) (t := 46) ?hr ?_; (case hd => rfl); (case hg => rfl); (case hr => first | (go_simp; done) | (go_simp; rfl)); intro gb342 hg w8 hbox hb; have n0_ := Aside0.mk (blk_below (g := gb335) (o := .cells #[.bool false, .string (⟨#[]⟩ : ByteArray), .int .i64 0] 46 (0, 0)) (by exact phDy_11) hb); have n1_ := Aside0.mk (below_step (by exact phDy_12) hb); have n2_ := Aside0.mk (hbox); have n3_ := Aside0.mk ((by rw [hg]; exact (below_size (by exact phDy_12)) : w.heap.size ≤ gb342)); have n4_ := Aside0.mk ((by rw [hg]; exact (below_size (by exact phDy_12)) : w.heap.size ≤ gb342)); have n5_ := Aside0.mk ((by rw [hg]; exact Nat.ne_of_lt (blk_lt (g := gb335) (o := .cells #[.bool false, .string (⟨#[]⟩ : ByteArray), .int .i64 0] 46 (0, 0)) (by exact phDy_11)) : gb335 ≠ gb342)); have n6_ := Aside0.mk ((by rw [hg]; exact Nat.ne_of_gt (blk_lt (g := gb335) (o := .cells #[.bool false, .string (⟨#[]⟩ : ByteArray), .int .i64 0] 46 (0, 0)) (by exact phDy_11)) : gb342 ≠ gb335)); clear BK335; clear HB; have BK335 := n0_; have HB := n1_; have BK342 := n2_; have GW342 := n3_; have GE342 := n4_; have NB335_342 := n5_; have NB342_335 := n6_; clear n0_ n1_ n2_ n3_ n4_ n5_ n6_; clear hb hbox hg; have hnb9 := NB342_335.out; have hnc9 := NB335_342.out; obtain ⟨hcz10_0, hcz10_1, hcz10_2, hfz10_0, hfz10_1, hfz10_2⟩ := bk3 BK342.out) | ((with_reducible refine gate_callee (f := 97) rfl ?_); refine goesL_ (some 19) rfl rfl Tryz.func97 (by kernel_rfl) rfl #[.agg #[.bool t337, .string t338, .int .i64 t339]] rfl (by exact pz4) ?_; (with_reducible refine (scan_normal.calls t337 t338 t339 t343 t344 t345 _ A5.out).mono ?_); rintro e w11 ⟨rfl, hb⟩; refine ⟨_, rfl, ?_⟩; have n0_ := Aside0.mk (blk_below (g := gb335) (o := .cells #[.bool false, .string (⟨#[]⟩ : ByteArray), .int .i64 0] 46 (0, 0)) (by (with_reducible repeat (first | refine blk_drewN ?_ _ | refine blk_drew ?_ | refine blk_alloc ?_ _)); refine blk_far ?_ NB335_342.out _; (with_reducible repeat (first | refine blk_drewN ?_ _ | refine blk_drew ?_ | refine blk_alloc ?_ _)); refine blk_far ?_ NB335_342.out _; (with_reducible repeat (first | refine blk_drewN ?_ _ | refine blk_drew ?_ | refine blk_alloc ?_ _)); refine blk_far ?_ NB335_342.out _; (with_reducible repeat (first | refine blk_drewN ?_ _ | refine blk_drew ?_ | refine blk_alloc ?_ _)); exact BK335.out) hb); have n1_ := Aside0.mk (blk_below (g := gb342) (o := .cells #[.bool t337, .string t338, .int .i64 t339] 46 (0, 0)) (by (with_reducible repeat (first | refine blk_drewN ?_ _ | refine blk_drew ?_ | refine blk_alloc ?_ _)); refine blk_put (cs := #[.bool t337, .string t338, .int .i64 0]) ?_ 2 _ (by exact pz10); (with_reducible repeat (first | refine blk_drewN ?_ _ | refine blk_drew ?_ | refine blk_alloc ?_ _)); refine blk_put (cs := #[.bool t337, .string (⟨#[]⟩ : ByteArray), .int .i64 0]) ?_ 1 _ (by exact pz10); (with_reducible repeat (first | refine blk_drewN ?_ _ | refine blk_drew ?_ | refine blk_alloc ?_ _)); refine blk_put (cs := #[.bool false, .string (⟨#[]⟩ : ByteArray), .int .i64 0]) ?_ 0 _ (by exact pz10); (with_reducible repeat (first | refine blk_drewN ?_ _ | refine blk_drew ?_ | refine blk_alloc ?_ _)); exact BK342.out) hb); have n2_ := Aside0.mk (below_step (by exact phDy_21) hb); clear BK335; clear BK342; clear HB; have BK335 := n0_; have BK342 := n1_; have HB := n2_; clear n0_ n1_ n2_; (try clear hb); obtain ⟨hcz12_0, hcz12_1, hcz12_2, hfz12_0, hfz12_1, hfz12_2⟩ := bk3 BK335.out)); refine bodyPost_ret (results_ct rfl _ _ gb335 46 #[.bool t343, .string t344, .int .i64 t345] (0, 0) _ rfl (by (with_reducible repeat (first | refine blk_drewN ?_ _ | refine blk_drew ?_ | refine blk_alloc ?_ _)); refine blk_put (cs := #[.bool t343, .string t344, .int .i64 0]) ?_ 2 _ (by exact pz10); (with_reducible repeat (first | refine blk_drewN ?_ _ | refine blk_drew ?_ | refine blk_alloc ?_ _)); refine blk_put (cs := #[.bool t343, .string (⟨#[]⟩ : ByteArray), .int .i64 0]) ?_ 1 _ (by exact pz10); (with_reducible repeat (first | refine blk_drewN ?_ _ | refine blk_drew ?_ | refine blk_alloc ?_ _)); refine blk_put (cs := #[.bool false, .string (⟨#[]⟩ : ByteArray), .int .i64 0]) ?_ 0 _ (by exact pz10); (with_reducible repeat (first | refine blk_drewN ?_ _ | refine blk_drew ?_ | refine blk_alloc ?_ _)); exact BK335.out) Tryz.underlying46 rfl (by kernel_rfl)) rfl ?_; exact ⟨by exact pz2, by exact phDy_21⟩
  replace c4 := Bool.eq_false_iff.mpr c4; subst c4; have H1 : (some (false, (⟨#[]⟩ : ByteArray), 0, 0)) = some (r1, r2, r3, r4) := by rw [if_neg (show ¬ (false = true) by decide)] at H; first | exact H | (simp only [append_nothing] at H; exact H)
  clear H; have H := H1; clear H1; simp only [Option.some.injEq, Prod.mk.injEq] at H; obtain ⟨rfl, rfl, rfl, rfl⟩ := H; go_enter Tryz.func55, Tryz.ntmps55; go_wp2_with (first | ((with_reducible refine gate_dst (N := 2) rfl ?_); refine box_event ?hg (N := 2) ?hd (cs := #[.bool false, .string (⟨#[]⟩ : ByteArray), .int .i64 0]) (t := 46) ?hr ?_; (case hd => rfl); (case hg => rfl); (case hr => first | (go_simp; done) | (go_simp; rfl)); intro gb335 hg w13 hbox hb; have n0_ := Aside0.mk (below_step (by exact pz1) hb); have n1_ := Aside0.mk (hbox); have n2_ := Aside0.mk ((by rw [hg]; exact (below_size (by exact pz1)) : w.heap.size ≤ gb335)); have n3_ := Aside0.mk ((by rw [hg]; exact (below_size (by exact pz1)) : w.heap.size ≤ gb335)); clear HB; have HB := n0_; have BK335 := n1_; have GW335 := n2_; have GE335 := n3_; clear n0_ n1_ n2_ n3_; clear hb hbox hg) | ((with_reducible refine gate_callee (f := 56) rfl ?_); refine goesL_ (some 10) rfl rfl Tryz.func56 (by kernel_rfl) rfl #[.string a0, .int .i64 0] rfl (by exact pz4) ?_; (with_reducible refine (scan_blanks.calls k a0 0 t336 _ A2.out).mono ?_); rintro e w' ⟨rfl, ⟨nd, rfl⟩⟩; refine ⟨_, rfl, ?_⟩; (try (rw [drewN_self w13]; generalize hq_ : World.drewN w13 _ = w13; have n0_ : Aside0 (w13.heap[gb335]? = some (.cells #[.bool false, .string (⟨#[]⟩ : ByteArray), .int .i64 0] 46 (0, 0))) := ⟨by rw [← hq_]; exact (by exact phDy_11)⟩; have n1_ : Aside0 (Below w.heap.size w w13) := ⟨by rw [← hq_]; exact (by exact phDy_12)⟩; clear BK335 HB hq_; have BK335 := n0_; have HB := n1_; clear n0_ n1_))) | ((with_reducible refine gate_callee (f := 96) rfl ?_); refine goesL_ (some 11) rfl rfl Tryz.func96 (by kernel_rfl) rfl #[.string a0, .int .i64 t336] rfl (by exact pz4) ?_; (with_reducible refine (scan_literal.calls a0 t336 t337 t338 t339 t340 false _ A3.out).mono ?_); rintro e w14 ⟨rfl, hb⟩; refine ⟨_, rfl, ?_⟩; have n0_ := Aside0.mk (blk_below (g := gb335) (o := .cells #[.bool false, .string (⟨#[]⟩ : ByteArray), .int .i64 0] 46 (0, 0)) (by exact phDy_11) hb); have n1_ := Aside0.mk (below_step (by exact phDy_12) hb); clear BK335; clear HB; have BK335 := n0_; have HB := n1_; clear n0_ n1_; (try clear hb); ) | ((with_reducible refine gate_dst (N := 4) rfl ?_); refine box_event ?hg (N := 4) ?hd (cs := #[.bool false, .string (⟨#[]⟩ : ByteArray), .int .i64 0]) (t := 46) ?hr ?_; (case hd => rfl); (case hg => rfl); (case hr => first | (go_simp; done) | (go_simp; rfl)); intro gb342 hg w15 hbox hb; have n0_ := Aside0.mk (blk_below (g := gb335) (o := .cells #[.bool false, .string (⟨#[]⟩ : ByteArray), .int .i64 0] 46 (0, 0)) (by exact phDy_11) hb); have n1_ := Aside0.mk (below_step (by exact phDy_12) hb); have n2_ := Aside0.mk (hbox); have n3_ := Aside0.mk ((by rw [hg]; exact (below_size (by exact phDy_12)) : w.heap.size ≤ gb342)); have n4_ := Aside0.mk ((by rw [hg]; exact (below_size (by exact phDy_12)) : w.heap.size ≤ gb342)); have n5_ := Aside0.mk ((by rw [hg]; exact Nat.ne_of_lt (blk_lt (g := gb335) (o := .cells #[.bool false, .string (⟨#[]⟩ : ByteArray), .int .i64 0] 46 (0, 0)) (by exact phDy_11)) : gb335 ≠ gb342)); have n6_ := Aside0.mk ((by rw [hg]; exact Nat.ne_of_gt (blk_lt (g := gb335) (o := .cells #[.bool false, .string (⟨#[]⟩ : ByteArray), .int .i64 0] 46 (0, 0)) (by exact phDy_11)) : gb342 ≠ gb335)); clear BK335; clear HB; have BK335 := n0_; have HB := n1_; have BK342 := n2_; have GW342 := n3_; have GE342 := n4_; have NB335_342 := n5_; have NB342_335 := n6_; clear n0_ n1_ n2_ n3_ n4_ n5_ n6_; clear hb hbox hg; have hnb16 := NB342_335.out; have hnc16 := NB335_342.out; obtain ⟨hcz17_0, hcz17_1, hcz17_2, hfz17_0, hfz17_1, hfz17_2⟩ := bk3 BK342.out; obtain ⟨hcz18_0, hcz18_1, hcz18_2, hfz18_0, hfz18_1, hfz18_2⟩ := bk3 BK335.out)); refine bodyPost_ret (results_ct rfl _ _ gb335 46 #[.bool false, .string (⟨#[]⟩ : ByteArray), .int .i64 0] (0, 0) _ rfl (by (with_reducible repeat (first | refine blk_drewN ?_ _ | refine blk_drew ?_ | refine blk_alloc ?_ _)); refine blk_put (cs := #[.bool false, .string (⟨#[]⟩ : ByteArray), .int .i64 0]) ?_ 2 _ (by exact pz10); (with_reducible repeat (first | refine blk_drewN ?_ _ | refine blk_drew ?_ | refine blk_alloc ?_ _)); refine blk_put (cs := #[.bool false, .string (⟨#[]⟩ : ByteArray), .int .i64 0]) ?_ 1 _ (by exact pz10); (with_reducible repeat (first | refine blk_drewN ?_ _ | refine blk_drew ?_ | refine blk_alloc ?_ _)); refine blk_put (cs := #[.bool false, .string (⟨#[]⟩ : ByteArray), .int .i64 0]) ?_ 0 _ (by exact pz10); (with_reducible repeat (first | refine blk_drewN ?_ _ | refine blk_drew ?_ | refine blk_alloc ?_ _)); refine blk_far ?_ NB335_342.out _; (with_reducible repeat (first | refine blk_drewN ?_ _ | refine blk_drew ?_ | refine blk_alloc ?_ _)); refine blk_far ?_ NB335_342.out _; (with_reducible repeat (first | refine blk_drewN ?_ _ | refine blk_drew ?_ | refine blk_alloc ?_ _)); refine blk_far ?_ NB335_342.out _; (with_reducible repeat (first | refine blk_drewN ?_ _ | refine blk_drew ?_ | refine blk_alloc ?_ _)); exact BK335.out) Tryz.underlying46 rfl (by kernel_rfl)) rfl ?_; exact ⟨by exact pz2, by exact phDy_21⟩

/-! ### abacuslaw15_places: function 23 -/
mutual
def abacuslaw15_places.l0 : Nat → ByteArray → Int → Int → Int → Option (Int × Int)
  | 0, _, _, _, _ => none
  | k + 1, x0, x4, x5, x6 => if x6 < (x0.size : Int) then (if 0 ≤ x6 then (if (bt x0 x6) = 46 then (abacuslaw15_places.l0 k x0 0 x5 (wrap64 (x6 + 1))) else (if (bt x0 x6) = 101 then (abacuslaw15_places.j1 k x0 x4 x5 x6 true) else (abacuslaw15_places.j1 k x0 x4 x5 x6 ((bt x0 x6) == 69)))) else (none)) else (if x4 < 0 then (some (0, x5)) else (some (x4, x5)))
def abacuslaw15_places.j1 : Nat → ByteArray → Int → Int → Int → Bool → Option (Int × Int)
  | 0, _, _, _, _, _ => none
  | k + 1, x0, x4, x5, x6, x20 => if x20 = true then (if 0 ≤ x6 then (if x6 ≤ (x0.size : Int) then (if 1 + (x0.extract (x6 : Int).toNat x0.size).size ≤ 9223372036854775807 then ((scan_Number.f k ((⟨#[49]⟩ : ByteArray) ++ (x0.extract (x6 : Int).toNat x0.size))).bind fun bt346 => (if bt346.2.2.2 = (wrap64 ((wrap64 ((x0.size : Int) - x6)) + 1)) then (if x4 < 0 then (some (0, bt346.2.2.1)) else (some (x4, bt346.2.2.1))) else (some ((-1), 0)))) else (none)) else (none)) else (none)) else (if x4 ≥ 0 then (abacuslaw15_places.l0 k x0 (wrap64 (x4 + 1)) x5 (wrap64 (x6 + 1))) else (abacuslaw15_places.l0 k x0 x4 x5 (wrap64 (x6 + 1))))
end
def abacuslaw15_places.f (k : Nat) (a0 : ByteArray) : Option (Int × Int) := abacuslaw15_places.l0 k a0 (-1) 0 0
theorem abacuslaw15_places.w1 {P : Prop} (h : P := by
  go_wp2; (repeat (go_quiet (fail); try go_wp2)); go_ret2; exact ⟨by exact pz2, by exact pz1⟩) : P := h
set_option maxHeartbeats 8000000 in
set_option maxRecDepth 100000 in
theorem abacuslaw15_places.calls (k : Nat) (a0 : ByteArray) (r1 : Int) (r2 : Int) (w : World) (h : abacuslaw15_places.f k a0 = some (r1, r2)) (HG : Aside0 (GW w) := by exact pz5) :
    Calls Tryz.prog 23 #[.string a0] w fun e w' => e = .returned (.tuple #[.int .i64 r1, .int .i64 r2]) ∧ Below w.heap.size w w' := by
  have hu46 := Tryz.underlying46; have HB := Aside0.mk (Below.refl w.heap.size w); have H := h; clear h; unfold abacuslaw15_places.f at H; have H' := Aside0.mk H; clear H; go_enter Tryz.func23, Tryz.ntmps23; go_wp2; (repeat (go_quiet (fail); try go_wp2)); go_loopg [4, 6] k (fun kq v4 v6 w' => ∃ (x4_1 : Int) (x6_1 : Int), v4 = .int .i64 x4_1 ∧ v6 = .int .i64 x6_1 ∧ Aside0 (abacuslaw15_places.l0 kq a0 x4_1 0 x6_1 = some (r1, r2)) ∧ Aside0 (kq ≤ k) ∧ Aside0 (Below w.heap.size w w'))
  case atStart => exact ⟨((-1)), (0), (by exact pz3), (by exact pz3), H', ⟨Nat.le_refl _⟩, ⟨by exact pz1⟩⟩
  case round =>
    clear H'; obtain ⟨x4_1, x6_1, rfl, rfl, HA, HK1, HB⟩ := hrel; cases gk with
    | zero => exact absurd HA.out (by simp [abacuslaw15_places.l0])
    | succ k1 =>
      have H := HA.out; clear HA; simp only [abacuslaw15_places.l0] at H; by_cases c2 : x6_1 < (a0.size : Int)
      · rw [if_pos c2] at H
        have c2b0 := decide_eq_true c2; clear c2; by_cases c3 : 0 ≤ x6_1
        · rw [if_pos c3] at H
          have c3b0 := decide_eq_true c3; clear c3; by_cases c5 : (bt a0 x6_1) = 46
          · rw [if_pos c5] at H
            have c5b0 := beq_iff_eq.mpr c5; have c5b1 := bne_eq_false_iff_eq.mpr c5; clear c5; have H' := Aside0.mk H; clear H; have p4 : 0 ≤ (x6_1 : Int) := of_decide_eq_true (by exact pz8); have q4 : x6_1 < (a0.size : Int) := of_decide_eq_true (by exact pz8); have hx4 := bt_at a0 x6_1; replace p4 := eq_true p4; replace q4 := eq_true q4; go_wp2; (repeat (go_quiet (fail); try go_wp2)); go_roundg k1
            case measure => have := HK1.out; omega
            case rel => exact ⟨(0), (wrap64 (x6_1 + 1)), (by exact pz3), (by exact pz3), H', ⟨by have := HK1.out; omega⟩, ⟨by exact pz1⟩⟩
          rw [if_neg c5] at H; have c5b0 := beq_eq_false_iff_ne.mpr c5; have c5b1 := bne_iff_ne.mpr c5; have HC6 := Aside0.mk H; clear H; have p4 : 0 ≤ (x6_1 : Int) := of_decide_eq_true (by exact pz8); have q4 : x6_1 < (a0.size : Int) := of_decide_eq_true (by exact pz8); have hx4 := bt_at a0 x6_1; replace p4 := eq_true p4; replace q4 := eq_true q4; go_upto_region 8 with (fail)
          (repeat (go_quiet (fail); go_upto_region 8 with (fail))); go_cut [20] (fun v20 wc => ∃ (kq : Nat) (x20_5 : Bool), v20 = .bool x20_5 ∧ Aside0 (abacuslaw15_places.j1 kq a0 x4_1 0 x6_1 x20_5 = some (r1, r2)) ∧ Aside0 (kq ≤ k1) ∧ Aside0 (Below w.heap.size w wc))
          case first =>
            have H := HC6.out; clear HC6; by_cases c8 : (bt a0 x6_1) = 101
            · rw [if_pos c8] at H
              have c8b0 := beq_iff_eq.mpr c8; have c8b1 := bne_eq_false_iff_eq.mpr c8; clear c8; (first | rw [c8b0] | (simp only [i64_w, i32_w]; rw [c8b0]) | skip)
              have H' := Aside0.mk H; clear H; have p7 : 0 ≤ (x6_1 : Int) := of_decide_eq_true (by exact pz8); have q7 : x6_1 < (a0.size : Int) := of_decide_eq_true (by exact pz8); have hx7 := bt_at a0 x6_1; replace p7 := eq_true p7; replace q7 := eq_true q7; go_wp2; (repeat (go_quiet (fail); try go_wp2)); go_meet
              case rel => exact ⟨_, (true), (by exact pz3), H', ⟨by have := HK1.out; first | omega | exact Nat.le_refl _⟩, ⟨by exact pz1⟩⟩
            rw [if_neg c8] at H; have c8b0 := beq_eq_false_iff_ne.mpr c8; have c8b1 := bne_iff_ne.mpr c8; (first | rw [c8b0] | (simp only [i64_w, i32_w]; rw [c8b0]) | skip)
            have H' := Aside0.mk H; clear H; have p7 : 0 ≤ (x6_1 : Int) := of_decide_eq_true (by exact pz8); have q7 : x6_1 < (a0.size : Int) := of_decide_eq_true (by exact pz8); have hx7 := bt_at a0 x6_1; replace p7 := eq_true p7; replace q7 := eq_true q7; have p9 : 0 ≤ (x6_1 : Int) := of_decide_eq_true (by exact pz8); have q9 : x6_1 < (a0.size : Int) := of_decide_eq_true (by exact pz8); have hx9 := bt_at a0 x6_1; replace p9 := eq_true p9; replace q9 := eq_true q9; go_wp2; (repeat (go_quiet (fail); try go_wp2)); go_meet
            case rel => exact ⟨_, (((bt a0 x6_1) == 69)), (by exact pz3), H', ⟨by have := HK1.out; first | omega | exact Nat.le_refl _⟩, ⟨by exact pz1⟩⟩
          case rest =>
            clear HC6; (try clear c2); (try clear c2b0); (try clear c3); (try clear c3b0); (try clear p4); (try clear q4); (try clear hx4); (try clear c5); (try clear c5b0); (try clear c5b1); (try clear p4); (try clear q4); obtain ⟨kq, x20_5, rfl, HA, HJ5, HB⟩ := hcut; cases kq with
            | zero => exact absurd HA.out (by simp [abacuslaw15_places.j1])
            | succ kj5 =>
              have H := HA.out; clear HA; simp only [abacuslaw15_places.j1] at H; by_cases c10 : x20_5 = true
              · subst c10
                rw [if_pos rfl] at H; by_cases c11 : 0 ≤ x6_1
                · rw [if_pos c11] at H
                  have c11b0 := eq_true c11; have c11b1 := decide_eq_true c11; clear c11; by_cases c12 : x6_1 ≤ (a0.size : Int)
                  · rw [if_pos c12] at H
                    have c12b0 := eq_true c12; have c12b1 := decide_eq_true c12; clear c12; by_cases c13 : 1 + (a0.extract (x6_1 : Int).toNat a0.size).size ≤ 9223372036854775807
                    · rw [if_pos c13] at H
                      have c13b0 := eq_true c13; have c13b1 := decide_eq_true c13; (try have c13b2 : (9223372036854775807 < 1 + (a0.extract (x6_1 : Int).toNat a0.size).size) = False := eq_false (Nat.not_lt.2 c13)); (try have c13b8 := c13b2); (try simp only [ByteArray.size_append, ByteArray.size_extract, size_lit, List.size_toArray, List.length_cons, List.length_nil, Nat.reduceAdd, Nat.sub_zero, Nat.min_self] at c13b8); (try (have c13b7 := c13b8; rw [Nat.add_zero] at c13b7)); (try have c13b3 := c13b2); (try simp only [ByteArray.size_append, size_lit, List.size_toArray, List.length_cons, List.length_nil, Nat.reduceAdd] at c13b3); replace H := Option.bind_eq_some_iff.mp H; obtain ⟨⟨t346, t347, t348, t349⟩, A140, H⟩ := H; (try dsimp only at H); have A14 := Aside0.mk A140; clear A140; by_cases c15 : t349 = (wrap64 ((wrap64 ((a0.size : Int) - x6_1)) + 1))
                      · rw [if_pos c15] at H
                        have c15b0 := beq_iff_eq.mpr c15; have c15b1 := bne_eq_false_iff_eq.mpr c15; clear c15; by_cases c16 : x4_1 < 0
                        · rw [if_pos c16] at H
                          have c16b0 := decide_eq_true c16; clear c16; simp only [Option.some.injEq, Prod.mk.injEq] at H; obtain ⟨rfl, rfl⟩ := H; go_wp2_with (first | (go_at_call 55; (with_reducible refine (scan_Number.calls kj5 ((⟨#[49]⟩ : ByteArray) ++ (a0.extract (x6_1 : Int).toNat a0.size)) t346 t347 t348 t349 _ A14.out).mono ?_); rintro e w17 ⟨rfl, hb⟩; have n0_ := Aside0.mk (below_step (by exact pz1) hb); clear HB; have HB := n0_; clear n0_; (try clear hb); ) | ((with_reducible refine gate_dst (N := 7) rfl ?_); refine box_event ?hg (N := 7) ?hd (cs := #[.bool false, .string (⟨#[]⟩ : ByteArray), .int .i64 0]) (t := 46) ?hr ?_; (case hd => rfl); (case hg => rfl); (case hr => first | (go_simp; done) | (go_simp; rfl)); intro gb350 hg w18 hbox hb; have n0_ := Aside0.mk (below_step (by exact pz1) hb); have n1_ := Aside0.mk (hbox); have n2_ := Aside0.mk ((by rw [hg]; exact (below_size (by exact pz1)) : w.heap.size ≤ gb350)); have n3_ := Aside0.mk ((by rw [hg]; exact (below_size (by exact pz1)) : w.heap.size ≤ gb350)); clear HB; have HB := n0_; have BK350 := n1_; have GW350 := n2_; have GE350 := n3_; clear n0_ n1_ n2_ n3_; clear hb hbox hg; obtain ⟨hcz19_0, hcz19_1, hcz19_2, hfz19_0, hfz19_1, hfz19_2⟩ := bk3 BK350.out)); (repeat (go_quiet (fail); try go_wp2_with (fail))); go_ret2; exact ⟨by exact pz2, by exact phDy_22⟩
                        rw [if_neg c16] at H; have c16b0 := decide_eq_false c16; clear c16; simp only [Option.some.injEq, Prod.mk.injEq] at H; obtain ⟨rfl, rfl⟩ := H; go_wp2_with (first | (go_at_call 55; (with_reducible refine (scan_Number.calls kj5 ((⟨#[49]⟩ : ByteArray) ++ (a0.extract (x6_1 : Int).toNat a0.size)) t346 t347 t348 t349 _ A14.out).mono ?_); rintro e w20 ⟨rfl, hb⟩; have n0_ := Aside0.mk (below_step (by exact pz1) hb); clear HB; have HB := n0_; clear n0_; (try clear hb); ) | ((with_reducible refine gate_dst (N := 7) rfl ?_); refine box_event ?hg (N := 7) ?hd (cs := #[.bool false, .string (⟨#[]⟩ : ByteArray), .int .i64 0]) (t := 46) ?hr ?_; (case hd => rfl); (case hg => rfl); (case hr => first | (go_simp; done) | (go_simp; rfl)); intro gb350 hg w21 hbox hb; have n0_ := Aside0.mk (below_step (by exact pz1) hb); have n1_ := Aside0.mk (hbox); have n2_ := Aside0.mk ((by rw [hg]; exact (below_size (by exact pz1)) : w.heap.size ≤ gb350)); have n3_ := Aside0.mk ((by rw [hg]; exact (below_size (by exact pz1)) : w.heap.size ≤ gb350)); clear HB; have HB := n0_; have BK350 := n1_; have GW350 := n2_; have GE350 := n3_; clear n0_ n1_ n2_ n3_; clear hb hbox hg; obtain ⟨hcz22_0, hcz22_1, hcz22_2, hfz22_0, hfz22_1, hfz22_2⟩ := bk3 BK350.out)); (repeat (go_quiet (fail); try go_wp2_with (fail))); go_ret2; exact ⟨by exact pz2, by exact phDy_22⟩
                      rw [if_neg c15] at H; have c15b0 := beq_eq_false_iff_ne.mpr c15; have c15b1 := bne_iff_ne.mpr c15; simp only [Option.some.injEq, Prod.mk.injEq] at H; obtain ⟨rfl, rfl⟩ := H; go_wp2_with (first | (go_at_call 55; (with_reducible refine (scan_Number.calls kj5 ((⟨#[49]⟩ : ByteArray) ++ (a0.extract (x6_1 : Int).toNat a0.size)) t346 t347 t348 t349 _ A14.out).mono ?_); rintro e w23 ⟨rfl, hb⟩; have n0_ := Aside0.mk (below_step (by exact pz1) hb); clear HB; have HB := n0_; clear n0_; (try clear hb); ) | ((with_reducible refine gate_dst (N := 7) rfl ?_); refine box_event ?hg (N := 7) ?hd (cs := #[.bool false, .string (⟨#[]⟩ : ByteArray), .int .i64 0]) (t := 46) ?hr ?_; (case hd => rfl); (case hg => rfl); (case hr => first | (go_simp; done) | (go_simp; rfl)); intro gb350 hg w24 hbox hb; have n0_ := Aside0.mk (below_step (by exact pz1) hb); have n1_ := Aside0.mk (hbox); have n2_ := Aside0.mk ((by rw [hg]; exact (below_size (by exact pz1)) : w.heap.size ≤ gb350)); have n3_ := Aside0.mk ((by rw [hg]; exact (below_size (by exact pz1)) : w.heap.size ≤ gb350)); clear HB; have HB := n0_; have BK350 := n1_; have GW350 := n2_; have GE350 := n3_; clear n0_ n1_ n2_ n3_; clear hb hbox hg; obtain ⟨hcz25_0, hcz25_1, hcz25_2, hfz25_0, hfz25_1, hfz25_2⟩ := bk3 BK350.out)); (repeat (go_quiet (fail); try go_wp2_with (fail))); go_ret2; exact ⟨by exact pz2, by exact phDy_22⟩
                    rw [if_neg c13] at H; exact absurd H (by simp)
                  rw [if_neg c12] at H; exact absurd H (by simp)
                rw [if_neg c11] at H; exact absurd H (by simp)
              replace c10 := Bool.eq_false_iff.mpr c10; subst c10; rw [if_neg (show ¬ (false = true) by decide)] at H; by_cases c26 : x4_1 ≥ 0
              · rw [if_pos c26] at H
                have c26b0 : decide (0 ≤ x4_1) = true := decide_eq_true c26; clear c26; have H' := Aside0.mk H; clear H; go_wp2; (repeat (go_quiet (fail); try go_wp2)); go_roundg kj5
                case measure => have := HK1.out; have := HJ5.out; omega
                case rel => exact ⟨(wrap64 (x4_1 + 1)), (wrap64 (x6_1 + 1)), (by exact pz3), (by exact pz3), H', ⟨by have := HK1.out; have := HJ5.out; omega⟩, ⟨by exact pz1⟩⟩
              rw [if_neg c26] at H; have c26b0 : decide (0 ≤ x4_1) = false := decide_eq_false c26; clear c26; have H' := Aside0.mk H; clear H; go_wp2; (repeat (go_quiet (fail); try go_wp2)); go_roundg kj5
              case measure => have := HK1.out; have := HJ5.out; omega
              case rel => exact ⟨(x4_1), (wrap64 (x6_1 + 1)), (by exact pz3), (by exact pz3), H', ⟨by have := HK1.out; have := HJ5.out; omega⟩, ⟨by exact pz1⟩⟩
        rw [if_neg c3] at H; exact absurd H (by simp)
      rw [if_neg c2] at H; have c2b0 := decide_eq_false c2; clear c2; by_cases c27 : x4_1 < 0
      · rw [if_pos c27] at H
        have c27b0 := decide_eq_true c27; clear c27; simp only [Option.some.injEq, Prod.mk.injEq] at H; obtain ⟨rfl, rfl⟩ := H; exact abacuslaw15_places.w1
      rw [if_neg c27] at H; have c27b0 := decide_eq_false c27; clear c27; simp only [Option.some.injEq, Prod.mk.injEq] at H; obtain ⟨rfl, rfl⟩ := H; exact abacuslaw15_places.w1

end Go.Proofs.YtgbjojokjekmhaaGreatDoor.PXD
