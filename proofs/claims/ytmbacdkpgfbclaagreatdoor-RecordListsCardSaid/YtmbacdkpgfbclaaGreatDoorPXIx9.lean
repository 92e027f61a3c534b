/- The machine's side of a law, printed by a program of this session out of the translation; conditions: none. -/
import Derived.Test.YtmbacdkpgfbclaaGreatDoorPXIx0
import Derived.Test.YtmbacdkpgfbclaaGreatDoorPXIx2
import Derived.Test.YtmbacdkpgfbclaaGreatDoorPXIx8
namespace Go.Proofs.YtmbacdkpgfbclaaGreatDoor.PXI
open Go.Proofs.YtmbacdkpgfbclaaGreatDoor
open Go.RowKit Go.Proofs.YtmbacdkpgfbclaaGreatDoorW.PrintWords Go.Proofs.YtmbacdkpgfbclaaGreatDoorW.PrintLast Go.Proofs.YtmbacdkpgfbclaaGreatDoorW.PrintMore
attribute [local go_sem] max2_int min2_int max_two min_two max_three min_three max_four min_four   -- for this text's walks alone
set_option linter.unusedVariables false
set_option linter.unusedSimpArgs false

theorem phIx9_4 {P : Prop} (h : P := by repeat (first | (with_reducible first | exact HB.out | apply below_alloc | apply pw_below_drewN | apply below_drew1 | refine below_set ?_ GE249.out) | exact HB.out)) : P := h
theorem phIx9_7 {P : Prop} (h : P := by (with_reducible repeat (first | refine blk_drewN ?_ _ | refine blk_drew ?_ | refine blk_alloc ?_ _)); exact BK249.out) : P := h
/-! ### ieee_Compare: function 57 -/
def ieee_Compare.f (a0 : Int) (a1 : Int) : Option (Int × Bool) := (ieee_Rank.f a0).bind fun bt244 => ((ieee_Rank.f a1).bind fun bt246 => (if bt244.2 = true then (if bt246.2 = true then ((ieee_order.f bt244.1 bt246.1).bind fun t248 => (some (t248, true))) else (some (0, false))) else (some (0, false))))
theorem ieee_Compare.w1 {P : Prop} (h : P := by
  go_enter Tryz.func57, Tryz.ntmps57; go_wp2_with (first | ((with_reducible refine gate_callee (f := 91) rfl ?_); refine goesL_ (some 12) rfl rfl Tryz.func91 (by kernel_rfl) rfl #[.int .u64 a0] rfl (by exact pz7) ?_; (with_reducible refine (ieee_Rank.calls a0 t244 true _ A3.out).mono ?_); rintro e w' ⟨rfl, ⟨nd, rfl⟩⟩; refine ⟨_, rfl, ?_⟩) | ((with_reducible refine gate_callee (f := 91) rfl ?_); refine goesL_ (some 17) rfl rfl Tryz.func91 (by kernel_rfl) rfl #[.int .u64 a1] rfl (by exact pz7) ?_; (with_reducible refine (ieee_Rank.calls a1 t246 true _ A4.out).mono ?_); rintro e w' ⟨rfl, ⟨nd, rfl⟩⟩; refine ⟨_, rfl, ?_⟩) | ((with_reducible refine gate_callee (f := 92) rfl ?_); refine goesL_ (some 28) rfl rfl Tryz.func92 (by kernel_rfl) rfl #[.int .i64 t244, .int .i64 t246] rfl (by exact pz7) ?_; (with_reducible refine (ieee_order.calls t244 t246 t248 _ A7.out).mono ?_); rintro e w' ⟨rfl, ⟨nd, rfl⟩⟩; refine ⟨_, rfl, ?_⟩) | ((with_reducible refine gate_callee (f := 91) rfl ?_); refine goesL_ (some 17) rfl rfl Tryz.func91 (by kernel_rfl) rfl #[.int .u64 a1] rfl (by exact pz7) ?_; (with_reducible refine (ieee_Rank.calls a1 t246 false _ A4.out).mono ?_); rintro e w' ⟨rfl, ⟨nd, rfl⟩⟩; refine ⟨_, rfl, ?_⟩) | ((with_reducible refine gate_callee (f := 91) rfl ?_); refine goesL_ (some 12) rfl rfl Tryz.func91 (by kernel_rfl) rfl #[.int .u64 a0] rfl (by exact pz7) ?_; (with_reducible refine (ieee_Rank.calls a0 t244 false _ A3.out).mono ?_); rintro e w' ⟨rfl, ⟨nd, rfl⟩⟩; refine ⟨_, rfl, ?_⟩) | ((with_reducible refine gate_callee (f := 91) rfl ?_); refine goesL_ (some 17) rfl rfl Tryz.func91 (by kernel_rfl) rfl #[.int .u64 a1] rfl (by exact pz7) ?_; (with_reducible refine (ieee_Rank.calls a1 t246 t247 _ A4.out).mono ?_); rintro e w' ⟨rfl, ⟨nd, rfl⟩⟩; refine ⟨_, rfl, ?_⟩)); go_ret2; exact ⟨by exact pz6, by exact pz1⟩) : P := h
set_option maxHeartbeats 8000000 in
set_option maxRecDepth 100000 in
theorem ieee_Compare.calls (a0 : Int) (a1 : Int) (r1 : Int) (r2 : Bool) (w : World) (h : ieee_Compare.f a0 a1 = some (r1, r2)) (HG : Aside0 (GW w) := by exact pz2) :
    Calls Tryz.prog 57 #[.int .u64 a0, .int .u64 a1] w fun e w' => e = .returned (.tuple #[.int .i64 r1, .bool r2]) ∧ Drawn0 w w' := by
  have H := h; clear h; unfold ieee_Compare.f at H; replace H := Option.bind_eq_some_iff.mp H; obtain ⟨⟨t244, t245⟩, A30, H⟩ := H; (try dsimp only at H); have A3 := Aside0.mk A30; clear A30; replace H := Option.bind_eq_some_iff.mp H; obtain ⟨⟨t246, t247⟩, A40, H⟩ := H; (try dsimp only at H); have A4 := Aside0.mk A40; clear A40; by_cases c5 : t245 = true
  · subst c5
    rw [if_pos rfl] at H; by_cases c6 : t247 = true
    · subst c6
      rw [if_pos rfl] at H; replace H := Option.bind_eq_some_iff.mp H; obtain ⟨t248, A70, H⟩ := H; (try dsimp only at H); have A7 := Aside0.mk A70; clear A70; simp only [Option.some.injEq, Prod.mk.injEq] at H; obtain ⟨rfl, rfl⟩ := H; exact ieee_Compare.w1
    replace c6 := Bool.eq_false_iff.mpr c6; subst c6; rw [if_neg (show ¬ (false = true) by decide)] at H; simp only [Option.some.injEq, Prod.mk.injEq] at H; obtain ⟨rfl, rfl⟩ := H; exact ieee_Compare.w1
  replace c5 := Bool.eq_false_iff.mpr c5; subst c5; rw [if_neg (show ¬ (false = true) by decide)] at H; simp only [Option.some.injEq, Prod.mk.injEq] at H; obtain ⟨rfl, rfl⟩ := H; exact ieee_Compare.w1

/-! ### value_Numeric: function 62 -/
def value_Numeric.f (a0_0 : Int) (a0_1 : Int) (a0_2 : ByteArray) : Option Bool := some (decide (a0_0 ≠ 2))
theorem value_Numeric.calls (a0_0 : Int) (a0_1 : Int) (a0_2 : ByteArray) (r : Bool) (w : World) (h : value_Numeric.f a0_0 a0_1 a0_2 = some r) (HG : Aside0 (GW w) := by exact pz2) :
    Calls Tryz.prog 62 #[.agg #[.int .i64 a0_0, .int .u64 a0_1, .string a0_2]] w fun e w' => e = .returned (.bool r) ∧ Below w.heap.size w w' := by
  cases h
  by_cases c1 : a0_0 = 1
  · subst c1
    exact (Numeric_1 a0_1 a0_2 w).mono fun e w' hh => ⟨by rw [hh.1]; rfl, hh.2⟩
  by_cases c2 : a0_0 = 2
  · subst c2
    exact (Numeric_2 a0_1 a0_2 w).mono fun e w' hh => ⟨by rw [hh.1]; rfl, hh.2⟩
  by_cases c3 : a0_0 = 3
  · subst c3
    exact (Numeric_3 a0_1 a0_2 w).mono fun e w' hh => ⟨by rw [hh.1]; rfl, hh.2⟩
  have d1 : (a0_0 == 1) = false := beq_eq_false_iff_ne.mpr c1; have d2 : (a0_0 == 2) = false := beq_eq_false_iff_ne.mpr c2; have d3 : (a0_0 == 3) = false := beq_eq_false_iff_ne.mpr c3; exact (Numeric_0 a0_0 a0_1 a0_2 w d1 d2 d3).mono fun e w' hh => ⟨by rw [hh.1, decide_eq_true c2], hh.2⟩

/-! ### relate_class: function 73 -/
def relate_class.f (a0_0 : Int) (a0_1 : Int) (a0_2 : ByteArray) : Option (Int) := (value_Numeric.f a0_0 a0_1 a0_2).bind fun t250 => (if t250 = true then ((value_ToNum.f a0_0 a0_1 a0_2).bind fun t251 => ((ieee_Class.f t251).bind fun t252 => (if t252 = 4 then (some 1) else (some 0)))) else (some 2))
set_option maxHeartbeats 8000000 in
set_option maxRecDepth 100000 in
theorem relate_class.calls (a0_0 : Int) (a0_1 : Int) (a0_2 : ByteArray) (r : Int) (w : World) (h : relate_class.f a0_0 a0_1 a0_2 = some r) (HG : Aside0 (GW w) := by exact pz2) :
    Calls Tryz.prog 73 #[.agg #[.int .i64 a0_0, .int .u64 a0_1, .string a0_2]] w fun e w' => e = .returned (.int .i64 r) ∧ Below w.heap.size w w' := by
  have hu26 := Tryz.underlying26; have HB := Aside0.mk (Below.refl w.heap.size w); have H := h; clear h; unfold relate_class.f at H; replace H := Option.bind_eq_some_iff.mp H; obtain ⟨t250, A20, H⟩ := H; (try dsimp only at H); have A2 := Aside0.mk A20; clear A20; by_cases c3 : t250 = true
  · subst c3
    rw [if_pos rfl] at H; replace H := Option.bind_eq_some_iff.mp H; obtain ⟨t251, A40, H⟩ := H; (try dsimp only at H); have A4 := Aside0.mk A40; clear A40; replace H := Option.bind_eq_some_iff.mp H; obtain ⟨t252, A50, H⟩ := H; (try dsimp only at H); have A5 := Aside0.mk A50; clear A50; by_cases c6 : t252 = 4
    · rw [if_pos c6] at H
      have c6b0 := beq_iff_eq.mpr c6; have c6b1 := bne_eq_false_iff_eq.mpr c6; clear c6; obtain rfl := Option.some.inj H; go_enter Tryz.func73, Tryz.ntmps73; go_wp2_with (first | ((with_reducible refine gate_dst (N := 1) rfl ?_); refine box_event ?hg (N := 1) ?hd (cs := #[.int .i64 a0_0, .int .u64 a0_1, .string a0_2]) (t := 26) ?hr ?_; (case hd => rfl); (case hg => rfl); (case hr => first | (go_simp; done) | (go_simp; rfl)); intro gb249 hg w7 hbox hb; have n0_ := Aside0.mk (below_step (by exact pz5) hb); have n1_ := Aside0.mk (hbox); have n2_ := Aside0.mk ((by rw [hg]; exact (below_size (by exact pz5)) : w.heap.size ≤ gb249)); have n3_ := Aside0.mk ((by rw [hg]; exact (below_size (by exact pz5)) : w.heap.size ≤ gb249)); clear HB; have HB := n0_; have BK249 := n1_; have GW249 := n2_; have GE249 := n3_; clear n0_ n1_ n2_ n3_; clear hb hbox hg; obtain ⟨hcz8_0, hcz8_1, hcz8_2, hfz8_0, hfz8_1, hfz8_2⟩ := bk3 BK249.out) | ((with_reducible refine gate_callee (f := 62) rfl ?_); refine goesL_ (some 5) rfl rfl Tryz.func62 (by kernel_rfl) rfl #[.agg #[.int .i64 a0_0, .int .u64 a0_1, .string a0_2]] rfl (by exact pz7) ?_; (with_reducible refine (value_Numeric.calls a0_0 a0_1 a0_2 true _ A2.out).mono ?_); rintro e w9 ⟨rfl, hb⟩; refine ⟨_, rfl, ?_⟩; have n0_ := Aside0.mk (blk_below (g := gb249) (o := .cells #[.int .i64 a0_0, .int .u64 a0_1, .string a0_2] 26 (0, 0)) (by exact phIx9_7) hb); have n1_ := Aside0.mk (below_step (by exact phIx9_4) hb); clear BK249; clear HB; have BK249 := n0_; have HB := n1_; clear n0_ n1_; (try clear hb); obtain ⟨hcz10_0, hcz10_1, hcz10_2, hfz10_0, hfz10_1, hfz10_2⟩ := bk3 BK249.out) | ((with_reducible refine gate_callee (f := 56) rfl ?_); refine goesL_ (some 9) rfl rfl Tryz.func56 (by kernel_rfl) rfl #[.agg #[.int .i64 a0_0, .int .u64 a0_1, .string a0_2]] rfl (by exact pz7) ?_; (with_reducible refine (value_ToNum.calls a0_0 a0_1 a0_2 t251 _ A4.out).mono ?_); rintro e w11 ⟨rfl, hb⟩; refine ⟨_, rfl, ?_⟩; have n0_ := Aside0.mk (blk_below (g := gb249) (o := .cells #[.int .i64 a0_0, .int .u64 a0_1, .string a0_2] 26 (0, 0)) (by exact phIx9_7) hb); have n1_ := Aside0.mk (below_step (by exact phIx9_4) hb); clear BK249; clear HB; have BK249 := n0_; have HB := n1_; clear n0_ n1_; (try clear hb); ) | ((with_reducible refine gate_callee (f := 96) rfl ?_); refine goesL_ (some 10) rfl rfl Tryz.func96 (by kernel_rfl) rfl #[.int .u64 t251] rfl (by exact pz7) ?_; (with_reducible refine (ieee_Class.calls t251 t252 _ A5.out).mono ?_); rintro e w' ⟨rfl, ⟨nd, rfl⟩⟩; refine ⟨_, rfl, ?_⟩)); go_ret; exact ⟨by exact pz8, by exact phIx9_4⟩
    rw [if_neg c6] at H; have c6b0 := beq_eq_false_iff_ne.mpr c6; have c6b1 := bne_iff_ne.mpr c6; obtain rfl := Option.some.inj H; go_enter Tryz.func73, Tryz.ntmps73; go_wp2_with (first | ((with_reducible refine gate_dst (N := 1) rfl ?_); refine box_event ?hg (N := 1) ?hd (cs := #[.int .i64 a0_0, .int .u64 a0_1, .string a0_2]) (t := 26) ?hr ?_; (case hd => rfl); (case hg => rfl); (case hr => first | (go_simp; done) | (go_simp; rfl)); intro gb249 hg w12 hbox hb; have n0_ := Aside0.mk (below_step (by exact pz5) hb); have n1_ := Aside0.mk (hbox); have n2_ := Aside0.mk ((by rw [hg]; exact (below_size (by exact pz5)) : w.heap.size ≤ gb249)); have n3_ := Aside0.mk ((by rw [hg]; exact (below_size (by exact pz5)) : w.heap.size ≤ gb249)); clear HB; have HB := n0_; have BK249 := n1_; have GW249 := n2_; have GE249 := n3_; clear n0_ n1_ n2_ n3_; clear hb hbox hg; obtain ⟨hcz13_0, hcz13_1, hcz13_2, hfz13_0, hfz13_1, hfz13_2⟩ := bk3 BK249.out) | ((with_reducible refine gate_callee (f := 62) rfl ?_); refine goesL_ (some 5) rfl rfl Tryz.func62 (by kernel_rfl) rfl #[.agg #[.int .i64 a0_0, .int .u64 a0_1, .string a0_2]] rfl (by exact pz7) ?_; (with_reducible refine (value_Numeric.calls a0_0 a0_1 a0_2 true _ A2.out).mono ?_); rintro e w14 ⟨rfl, hb⟩; refine ⟨_, rfl, ?_⟩; have n0_ := Aside0.mk (blk_below (g := gb249) (o := .cells #[.int .i64 a0_0, .int .u64 a0_1, .string a0_2] 26 (0, 0)) (by exact phIx9_7) hb); have n1_ := Aside0.mk (below_step (by exact phIx9_4) hb); clear BK249; clear HB; have BK249 := n0_; have HB := n1_; clear n0_ n1_; (try clear hb); obtain ⟨hcz15_0, hcz15_1, hcz15_2, hfz15_0, hfz15_1, hfz15_2⟩ := bk3 BK249.out) | ((with_reducible refine gate_callee (f := 56) rfl ?_); refine goesL_ (some 9) rfl rfl Tryz.func56 (by kernel_rfl) rfl #[.agg #[.int .i64 a0_0, .int .u64 a0_1, .string a0_2]] rfl (by exact pz7) ?_; (with_reducible refine (value_ToNum.calls a0_0 a0_1 a0_2 t251 _ A4.out).mono ?_); rintro e w16 ⟨rfl, hb⟩; refine ⟨_, rfl, ?_⟩; have n0_ := Aside0.mk (blk_below (g := gb249) (o := .cells #[.int .i64 a0_0, .int .u64 a0_1, .string a0_2] 26 (0, 0)) (by exact phIx9_7) hb); have n1_ := Aside0.mk (below_step (by exact phIx9_4) hb); clear BK249; clear HB; have BK249 := n0_; have HB := n1_; clear n0_ n1_; (try clear hb); ) | ((with_reducible refine gate_callee (f := 96) rfl ?_); refine goesL_ (some 10) rfl rfl Tryz.func96 (by kernel_rfl) rfl #[.int .u64 t251] rfl (by exact pz7) ?_; (with_reducible refine (ieee_Class.calls t251 t252 _ A5.out).mono ?_); rintro e w' ⟨rfl, ⟨nd, rfl⟩⟩; refine ⟨_, rfl, ?_⟩)); go_ret; exact ⟨by exact pz8, by exact phIx9_4⟩
  replace c3 := Bool.eq_false_iff.mpr c3; subst c3; rw [if_neg (show ¬ (false = true) by decide)] at H; obtain rfl := Option.some.inj H; go_enter Tryz.func73, Tryz.ntmps73; go_wp2_with (first | ((with_reducible refine gate_dst (N := 1) rfl ?_); refine box_event ?hg (N := 1) ?hd (cs := #[.int .i64 a0_0, .int .u64 a0_1, .string a0_2]) (t := 26) ?hr ?_; (case hd => rfl); (case hg => rfl); (case hr => first | (go_simp; done) | (go_simp; rfl)); intro gb249 hg w17 hbox hb; have n0_ := Aside0.mk (below_step (by exact pz5) hb); have n1_ := Aside0.mk (hbox); have n2_ := Aside0.mk ((by rw [hg]; exact (below_size (by exact pz5)) : w.heap.size ≤ gb249)); have n3_ := Aside0.mk ((by rw [hg]; exact (below_size (by exact pz5)) : w.heap.size ≤ gb249)); clear HB; have HB := n0_; have BK249 := n1_; have GW249 := n2_; have GE249 := n3_; clear n0_ n1_ n2_ n3_; clear hb hbox hg; obtain ⟨hcz18_0, hcz18_1, hcz18_2, hfz18_0, hfz18_1, hfz18_2⟩ := bk3 BK249.out) | ((with_reducible refine gate_callee (f := 62) rfl ?_); refine goesL_ (some 5) rfl rfl Tryz.func62 (by kernel_rfl) rfl #[.agg #[.int .i64 a0_0, .int .u64 a0_1, .string a0_2]] rfl (by exact pz7) ?_; (with_reducible refine (value_Numeric.calls a0_0 a0_1 a0_2 false _ A2.out).mono ?_); rintro e w19 ⟨rfl, hb⟩; refine ⟨_, rfl, ?_⟩; have n0_ := Aside0.mk (blk_below (g := gb249) (o := .cells #[.int .i64 a0_0, .int .u64 a0_1, .string a0_2] 26 (0, 0)) (by exact phIx9_7) hb); have n1_ := Aside0.mk (below_step (by exact phIx9_4) hb); clear BK249; clear HB; have BK249 := n0_; have HB := n1_; clear n0_ n1_; (try clear hb); )); go_ret; exact ⟨by exact pz8, by exact phIx9_4⟩

/-! ### relate_texts: function 74 -/
mutual
def relate_texts.l0 : Nat → ByteArray → ByteArray → Int → Option (Int)
  | 0, _, _, _ => none
  | k + 1, x0, x1, x5 => if x5 < (x0.size : Int) then (relate_texts.j1 k x0 x1 x5 (decide (x5 < (x1.size : Int)))) else (relate_texts.j1 k x0 x1 x5 false)
def relate_texts.j1 : Nat → ByteArray → ByteArray → Int → Bool → Option (Int)
  | 0, _, _, _, _ => none
  | k + 1, x0, x1, x5, x15 => if x15 = true then (if 0 ≤ x5 then (if x5 < (x0.size : Int) then (if x5 < (x1.size : Int) then (if (bt x0 x5) < (bt x1 x5) then (some (-1)) else (if (bt x0 x5) > (bt x1 x5) then (some 1) else (relate_texts.l0 k x0 x1 (wrap64 (x5 + 1))))) else (none)) else (none)) else (none)) else (if (x0.size : Int) < (x1.size : Int) then (some (-1)) else (if (x0.size : Int) > (x1.size : Int) then (some 1) else (some 0)))
end
def relate_texts.f (k : Nat) (a0 : ByteArray) (a1 : ByteArray) : Option (Int) := relate_texts.l0 k a0 a1 0
theorem relate_texts.mo {P : Prop} (h : P := by repeat' with_reducible first | apply ih0 | apply ih1 | apply LeO.refl | apply LeO.none | refine LeO.ite ?_ ?_ | refine LeO.bind ?_ (fun _ => ?_)) : P := h
theorem relate_texts.mono_l : ∀ k, (∀ y0 y1 y2, LeO (relate_texts.l0 k y0 y1 y2) (relate_texts.l0 (k + 1) y0 y1 y2)) ∧ (∀ y0 y1 y2 y3, LeO (relate_texts.j1 k y0 y1 y2 y3) (relate_texts.j1 (k + 1) y0 y1 y2 y3))
  | 0 => ⟨fun _ _ _ r h => by simp [relate_texts.l0] at h, fun _ _ _ _ r h => by simp [relate_texts.j1] at h⟩
  | k + 1 => by
    obtain ⟨ih0, ih1⟩ := relate_texts.mono_l k
    refine ⟨?_, ?_⟩
    · intro y0 y1 y2
      unfold relate_texts.l0
      exact relate_texts.mo
    · intro y0 y1 y2 y3
      unfold relate_texts.j1
      exact relate_texts.mo
theorem relate_texts.mono : ∀ a0 a1 k, LeO (relate_texts.f k a0 a1) (relate_texts.f (k + 1) a0 a1) := by
  intro a0 a1 k; obtain ⟨ih0, ih1⟩ := relate_texts.mono_l k; unfold relate_texts.f; exact relate_texts.mo
theorem relate_texts.w1 {P : Prop} (h : P := by
  go_wp2; (repeat (go_quiet (fail); try go_wp2)); go_ret; exact ⟨by exact pz6, by exact pz1⟩) : P := h
set_option maxHeartbeats 8000000 in
set_option maxRecDepth 100000 in
theorem relate_texts.calls (k : Nat) (a0 : ByteArray) (a1 : ByteArray) (r : Int) (w : World) (h : relate_texts.f k a0 a1 = some r) (HG : Aside0 (GW w) := by exact pz2) :
    Calls Tryz.prog 74 #[.string a0, .string a1] w fun e w' => e = .returned (.int .i64 r) ∧ Drawn0 w w' := by
  have H := h; clear h; unfold relate_texts.f at H; have H' := Aside0.mk H; clear H; go_enter Tryz.func74, Tryz.ntmps74; go_wp2; (repeat (go_quiet (fail); try go_wp2)); go_loopg [5] k (fun kq v5 w' => ∃ (x5_1 : Int), v5 = .int .i64 x5_1 ∧ Aside0 (relate_texts.l0 kq a0 a1 x5_1 = some r) ∧ Aside0 (kq ≤ k) ∧ Drawn0 w w')
  case atStart => exact ⟨(0), (by exact pz6), H', ⟨Nat.le_refl _⟩, by exact pz1⟩
  case round =>
    clear H'; obtain ⟨x5_1, rfl, HA, HK1, ⟨m1, rfl⟩⟩ := hrel; cases gk with
    | zero => exact absurd HA.out (by simp [relate_texts.l0])
    | succ k1 =>
      have H := HA.out; clear HA; simp only [relate_texts.l0] at H; have HC3 := Aside0.mk H; clear H; go_upto_region 2 with (fail)
      (repeat (go_quiet (fail); go_upto_region 2 with (fail))); go_cut [15] (fun v15 wc => ∃ (kq : Nat) (x15_2 : Bool), v15 = .bool x15_2 ∧ Aside0 (relate_texts.j1 kq a0 a1 x5_1 x15_2 = some r) ∧ Aside0 (kq ≤ k1) ∧ Drawn0 w wc)
      case first =>
        have H := HC3.out; clear HC3; by_cases c4 : x5_1 < (a0.size : Int)
        · rw [if_pos c4] at H
          have c4b0 := decide_eq_true c4; clear c4; (first | rw [c4b0] | (simp only [i64_w, i32_w]; rw [c4b0]) | skip)
          have H' := Aside0.mk H; clear H; go_wp2; (repeat (go_quiet (fail); try go_wp2)); go_meet
          case rel => exact ⟨_, (decide (x5_1 < (a1.size : Int))), (by exact pz6), H', ⟨by have := HK1.out; first | omega | exact Nat.le_refl _⟩, by exact pz1⟩
        rw [if_neg c4] at H; have c4b0 := decide_eq_false c4; clear c4; (first | rw [c4b0] | (simp only [i64_w, i32_w]; rw [c4b0]) | skip)
        have H' := Aside0.mk H; clear H; go_wp2; (repeat (go_quiet (fail); try go_wp2)); go_meet
        case rel => exact ⟨_, (false), (by exact pz6), H', ⟨by have := HK1.out; first | omega | exact Nat.le_refl _⟩, by exact pz1⟩
      case rest =>
        clear HC3; obtain ⟨kq, x15_2, rfl, HA, HJ2, ⟨mc2, rfl⟩⟩ := hcut; cases kq with
        | zero => exact absurd HA.out (by simp [relate_texts.j1])
        | succ kj2 =>
          have H := HA.out; clear HA; simp only [relate_texts.j1] at H; by_cases c5 : x15_2 = true
          · subst c5
            rw [if_pos rfl] at H; by_cases c6 : 0 ≤ x5_1
            · rw [if_pos c6] at H
              have c6b0 := decide_eq_true c6; clear c6; by_cases c7 : x5_1 < (a0.size : Int)
              · rw [if_pos c7] at H
                have c7b0 := decide_eq_true c7; clear c7; by_cases c9 : x5_1 < (a1.size : Int)
                · rw [if_pos c9] at H
                  have c9b0 := decide_eq_true c9; clear c9; by_cases c11 : (bt a0 x5_1) < (bt a1 x5_1)
                  · rw [if_pos c11] at H
                    have c11b0 := decide_eq_true c11; clear c11; obtain rfl := Option.some.inj H; have p8 : 0 ≤ (x5_1 : Int) := of_decide_eq_true (by exact pz4); have q8 : x5_1 < (a0.size : Int) := of_decide_eq_true (by exact pz4); have hx8 := bt_at a0 x5_1; replace p8 := eq_true p8; replace q8 := eq_true q8; have p10 : 0 ≤ (x5_1 : Int) := of_decide_eq_true (by exact pz4); have q10 : x5_1 < (a1.size : Int) := of_decide_eq_true (by exact pz4); have hx10 := bt_at a1 x5_1; replace p10 := eq_true p10; replace q10 := eq_true q10; exact relate_texts.w1
                  rw [if_neg c11] at H; have c11b0 := decide_eq_false c11; clear c11; by_cases c14 : (bt a0 x5_1) > (bt a1 x5_1)
                  · rw [if_pos c14] at H
                    have c14b0 : decide ((bt a1 x5_1) < (bt a0 x5_1)) = true := decide_eq_true c14; clear c14; obtain rfl := Option.some.inj H; have p8 : 0 ≤ (x5_1 : Int) := of_decide_eq_true (by exact pz4); have q8 : x5_1 < (a0.size : Int) := of_decide_eq_true (by exact pz4); have hx8 := bt_at a0 x5_1; replace p8 := eq_true p8; replace q8 := eq_true q8; have p10 : 0 ≤ (x5_1 : Int) := of_decide_eq_true (by exact pz4); have q10 : x5_1 < (a1.size : Int) := of_decide_eq_true (by exact pz4); have hx10 := bt_at a1 x5_1; replace p10 := eq_true p10; replace q10 := eq_true q10; have p12 : 0 ≤ (x5_1 : Int) := of_decide_eq_true (by exact pz4); have q12 : x5_1 < (a0.size : Int) := of_decide_eq_true (by exact pz4); have hx12 := bt_at a0 x5_1; replace p12 := eq_true p12; replace q12 := eq_true q12; have p13 : 0 ≤ (x5_1 : Int) := of_decide_eq_true (by exact pz4); have q13 : x5_1 < (a1.size : Int) := of_decide_eq_true (by exact pz4); have hx13 := bt_at a1 x5_1; replace p13 := eq_true p13; replace q13 := eq_true q13; exact relate_texts.w1
                  rw [if_neg c14] at H; have c14b0 : decide ((bt a1 x5_1) < (bt a0 x5_1)) = false := decide_eq_false c14; clear c14; have H' := Aside0.mk H; clear H; have p8 : 0 ≤ (x5_1 : Int) := of_decide_eq_true (by exact pz4); have q8 : x5_1 < (a0.size : Int) := of_decide_eq_true (by exact pz4); have hx8 := bt_at a0 x5_1; replace p8 := eq_true p8; replace q8 := eq_true q8; have p10 : 0 ≤ (x5_1 : Int) := of_decide_eq_true (by exact pz4); have q10 : x5_1 < (a1.size : Int) := of_decide_eq_true (by exact pz4); have hx10 := bt_at a1 x5_1; replace p10 := eq_true p10; replace q10 := eq_true q10; have p12 : 0 ≤ (x5_1 : Int) := of_decide_eq_true (by exact pz4); have q12 : x5_1 < (a0.size : Int) := of_decide_eq_true (by exact pz4); have hx12 := bt_at a0 x5_1; replace p12 := eq_true p12; replace q12 := eq_true q12; have p13 : 0 ≤ (x5_1 : Int) := of_decide_eq_true (by exact pz4); have q13 : x5_1 < (a1.size : Int) := of_decide_eq_true (by exact pz4); have hx13 := bt_at a1 x5_1; replace p13 := eq_true p13; replace q13 := eq_true q13; go_wp2; (repeat (go_quiet (fail); try go_wp2)); go_roundg kj2
                  case measure => have := HK1.out; have := HJ2.out; omega
                  case rel => exact ⟨(wrap64 (x5_1 + 1)), (by exact pz6), H', ⟨by have := HK1.out; have := HJ2.out; omega⟩, by exact pz1⟩
                rw [if_neg c9] at H; exact absurd H (by simp)
              rw [if_neg c7] at H; exact absurd H (by simp)
            rw [if_neg c6] at H; exact absurd H (by simp)
          replace c5 := Bool.eq_false_iff.mpr c5; subst c5; rw [if_neg (show ¬ (false = true) by decide)] at H; by_cases c15 : (a0.size : Int) < (a1.size : Int)
          · rw [if_pos c15] at H
            have c15b0 := decide_eq_true c15; have c15b1 : decide (a0.size < a1.size) = true := decide_eq_true (Int.ofNat_lt.mp c15); clear c15; obtain rfl := Option.some.inj H; exact relate_texts.w1
          rw [if_neg c15] at H; have c15b0 := decide_eq_false c15; have c15b1 : decide (a0.size < a1.size) = false := decide_eq_false (fun h => c15 (Int.ofNat_lt.mpr h)); clear c15; by_cases c16 : (a0.size : Int) > (a1.size : Int)
          · rw [if_pos c16] at H
            have c16b0 : decide ((a1.size : Int) < (a0.size : Int)) = true := decide_eq_true c16; have c16b1 : decide (a1.size < a0.size) = true := decide_eq_true (Int.ofNat_lt.mp c16); clear c16; obtain rfl := Option.some.inj H; exact relate_texts.w1
          rw [if_neg c16] at H; have c16b0 : decide ((a1.size : Int) < (a0.size : Int)) = false := decide_eq_false c16; have c16b1 : decide (a1.size < a0.size) = false := decide_eq_false (fun h => c16 (Int.ofNat_lt.mpr h)); clear c16; obtain rfl := Option.some.inj H; exact relate_texts.w1

end Go.Proofs.YtmbacdkpgfbclaaGreatDoor.PXI
