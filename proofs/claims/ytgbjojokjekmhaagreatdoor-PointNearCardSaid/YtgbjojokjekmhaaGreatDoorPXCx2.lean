/- The machine's side of a law, printed by a program of this session out of the translation; conditions: none. -/
import Derived.Test.YtgbjojokjekmhaaGreatDoorPXCx0
namespace Go.Proofs.YtgbjojokjekmhaaGreatDoor.PXC
open Go.Proofs.YtgbjojokjekmhaaGreatDoor
open Go.RowKit Go.Proofs.YtgbjojokjekmhaaGreatDoorW.PrintWords Go.Proofs.YtgbjojokjekmhaaGreatDoorW.PrintLast Go.Proofs.YtgbjojokjekmhaaGreatDoorW.PrintMore
attribute [local go_sem] max2_int min2_int max_two min_two max_three min_three max_four min_four   -- for this text's walks alone
set_option linter.unusedVariables false
set_option linter.unusedSimpArgs false

/-! ### point_look: function 50 -/
def point_look.j0 : Nat → Bool → Int → Int → Int → Int → Option (Int)
  | 0, _, _, _, _, _ => none
  | k + 1, x3, x113000, x113001, x113002, x113003 => if x3 = true then (some 1) else (if x113002 > 4096 then (some 6) else (if x113003 > 4096 then (some 6) else (some 0)))
def point_look.f (k : Nat) (a0_0 : Int) (a0_1 : Int) (a0_2 : Int) (a0_3 : Int) : Option (Int) := if a0_1 < 0 then (point_look.j0 k true a0_0 a0_1 a0_2 a0_3) else (if a0_1 > 31 then (point_look.j0 k true a0_0 a0_1 a0_2 a0_3) else (if a0_2 < 0 then (point_look.j0 k true a0_0 a0_1 a0_2 a0_3) else (point_look.j0 k (decide (a0_3 < (-1))) a0_0 a0_1 a0_2 a0_3)))
theorem ph_point_look {P : Prop} (h : P := by subst h; go_enter Tryz.func50, Tryz.ntmps50; go_wp2; go_ret; first | done | exact ⟨rfl, fin _⟩) : P := h
set_option maxHeartbeats 8000000 in
set_option maxRecDepth 100000 in
theorem point_look.calls (k : Nat) (a0_0 : Int) (a0_1 : Int) (a0_2 : Int) (a0_3 : Int) (r : Int) (w : World) (h : point_look.f k a0_0 a0_1 a0_2 a0_3 = some r) (HG : Aside0 (GW w) := by first | (with_reducible exact HG) | exact ⟨GW.below HG.out (by repeat (first | (with_reducible first | exact HB.out | apply below_alloc | apply pw_below_drewN | apply below_drew1) | (with_reducible refine below_set ?_ (Aside0.out (by assumption))) | exact HB.out | exact Below.refl _ _))⟩ | exact ⟨GW.drewN HG.out _⟩ | exact ⟨GW.drew HG.out⟩ | exact ⟨GW.drewN (GW.drewN HG.out _) _⟩ | exact ⟨GW.drewN (GW.drew HG.out) _⟩) :
    Calls Tryz.prog 50 #[.agg #[.int .u8 a0_0, .int .i64 a0_1, .int .i64 a0_2, .int .i64 a0_3]] w fun e w' => e = .returned (.int .i64 r) ∧ Below w.heap.size w w' := by
  have hu := Tryz.underlying23
  have fin : ∀ o, Below w.heap.size w (w.alloc o) := fun o => (Below.refl _ w).alloc (Nat.le_refl _) o
  cases k with
  | zero =>
    exfalso; revert h; unfold point_look.f; (repeat' split) <;> simp [point_look.j0]
  | succ k =>
    by_cases a1 : a0_1 < 0
    · have b := decide_eq_true a1; simp [point_look.f, point_look.j0, *] at h; exact ph_point_look
    have b1 := decide_eq_false a1
    by_cases a2 : 31 < a0_1
    · have b := decide_eq_true a2; simp [point_look.f, point_look.j0, *] at h; exact ph_point_look
    have b2 := decide_eq_false a2
    by_cases a3 : a0_2 < 0
    · have b := decide_eq_true a3; simp [point_look.f, point_look.j0, *] at h; exact ph_point_look
    have b3 := decide_eq_false a3
    by_cases a4 : a0_3 < -1
    · have b := decide_eq_true a4; simp [point_look.f, point_look.j0, *] at h; exact ph_point_look
    have b4 := decide_eq_false a4
    by_cases a5 : 4096 < a0_2
    · have b := decide_eq_true a5; simp [point_look.f, point_look.j0, *] at h; exact ph_point_look
    have b5 := decide_eq_false a5
    by_cases a6 : 4096 < a0_3
    · have b := decide_eq_true a6; simp [point_look.f, point_look.j0, *] at h; exact ph_point_look
    have b6 := decide_eq_false a6
    simp [point_look.f, point_look.j0, *] at h; exact ph_point_look

/-! ### ieee_Abs: function 88 -/
def ieee_Abs.f (a0 : Int) : Option (Int) := some (Go.bits .andNot .u64 a0 9223372036854775808)
set_option maxHeartbeats 8000000 in
set_option maxRecDepth 100000 in
theorem ieee_Abs.calls (a0 : Int) (r : Int) (w : World) (h : ieee_Abs.f a0 = some r) (HG : Aside0 (GW w) := by exact pz5) :
    Calls Tryz.prog 88 #[.int .u64 a0] w fun e w' => e = .returned (.int .u64 r) ∧ Drawn0 w w' := by
  have H := h; clear h; unfold ieee_Abs.f at H; obtain rfl := Option.some.inj H; go_enter Tryz.func88, Tryz.ntmps88; go_wp2; go_ret; exact ⟨by first | rfl | (simp; done) | (simp [*]; done), by repeat (first | exact Drawn0.refl _ | apply Drawn0.step)⟩

/-! ### ieee_Class: function 51 -/
def ieee_Class.f (a0 : Int) : Option (Int) := (ieee_Abs.f a0).bind fun t113 => (if t113 = 0 then (some 0) else (if t113 < 4503599627370496 then (some 1) else (if t113 < 9218868437227405312 then (some 2) else (if t113 = 9218868437227405312 then (some 3) else (some 4)))))
theorem ieee_Class.w1 {P : Prop} (h : P := by
  go_enter Tryz.func51, Tryz.ntmps51; go_wp2_with (first | ((with_reducible refine gate_callee (f := 88) rfl ?_); refine goesL_ (some 4) rfl rfl Tryz.func88 (by kernel_rfl) rfl #[.int .u64 a0] rfl (by (try simp only [List.map_toArray, List.map_cons, List.map_nil]); first | done | rfl | (simp only [List.length_drop, List.length_take]; rfl)) ?_; (with_reducible refine (ieee_Abs.calls a0 t113 _ A2.out).mono ?_); rintro e w' ⟨rfl, ⟨nd, rfl⟩⟩; refine ⟨_, rfl, ?_⟩)); go_ret; exact ⟨by first | rfl | (simp; done) | (simp [*]; done), by repeat (first | exact Drawn0.refl _ | apply Drawn0.step)⟩) : P := h
set_option maxHeartbeats 8000000 in
set_option maxRecDepth 100000 in
theorem ieee_Class.calls (a0 : Int) (r : Int) (w : World) (h : ieee_Class.f a0 = some r) (HG : Aside0 (GW w) := by exact pz5) :
    Calls Tryz.prog 51 #[.int .u64 a0] w fun e w' => e = .returned (.int .i64 r) ∧ Drawn0 w w' := by
  have H := h; clear h; unfold ieee_Class.f at H; replace H := Option.bind_eq_some_iff.mp H; obtain ⟨t113, A20, H⟩ := H; (try dsimp only at H); have A2 := Aside0.mk A20; clear A20; by_cases c3 : t113 = 0
  · rw [if_pos c3] at H
    have c3b0 := beq_iff_eq.mpr c3; have c3b1 := bne_eq_false_iff_eq.mpr c3; clear c3; obtain rfl := Option.some.inj H; exact ieee_Class.w1
  rw [if_neg c3] at H; have c3b0 := beq_eq_false_iff_ne.mpr c3; have c3b1 := bne_iff_ne.mpr c3; by_cases c4 : t113 < 4503599627370496
  · rw [if_pos c4] at H
    have c4b0 := decide_eq_true c4; clear c4; obtain rfl := Option.some.inj H; exact ieee_Class.w1
  rw [if_neg c4] at H; have c4b0 := decide_eq_false c4; clear c4; by_cases c5 : t113 < 9218868437227405312
  · rw [if_pos c5] at H
    have c5b0 := decide_eq_true c5; clear c5; obtain rfl := Option.some.inj H; exact ieee_Class.w1
  rw [if_neg c5] at H; have c5b0 := decide_eq_false c5; clear c5; by_cases c6 : t113 = 9218868437227405312
  · rw [if_pos c6] at H
    have c6b0 := beq_iff_eq.mpr c6; have c6b1 := bne_eq_false_iff_eq.mpr c6; clear c6; obtain rfl := Option.some.inj H; exact ieee_Class.w1
  rw [if_neg c6] at H; have c6b0 := beq_eq_false_iff_ne.mpr c6; have c6b1 := bne_iff_ne.mpr c6; obtain rfl := Option.some.inj H; exact ieee_Class.w1

/-! ### strings_ToUpper: function 52 -/
def strings_ToUpper.f (a0 : ByteArray) : Option ByteArray := if a0.size ≤ 140737488355328 ∧ ∀ b ∈ a0.data.toList, b.toNat < 128 then some ⟨(Lib.toUpperA a0.data.toList).toArray⟩ else none
theorem strings_ToUpper.calls (a0 : ByteArray) (r : ByteArray) (w : World) (h : strings_ToUpper.f a0 = some r) :
    Calls Tryz.prog 52 #[.string a0] w fun e w' => e = .returned (.string r) ∧ Below w.heap.size w w' := by
  unfold strings_ToUpper.f at h; split at h
  · rename_i h0
    cases h
    exact Tryz.strings_ToUpper_ascii a0 w h0.1 (fun j b hb => h0.2 b (List.mem_of_getElem? hb))
  cases h

end Go.Proofs.YtgbjojokjekmhaaGreatDoor.PXC
