/- The machine's side of a law, printed by a program of this session out of the translation; conditions: none. -/
import Derived.Test.YtgbjojokjekmhaaGreatDoorPXCx0
import Derived.Test.YtgbjojokjekmhaaGreatDoorPXCx1
import Derived.Test.YtgbjojokjekmhaaGreatDoorPXCx8
namespace Go.Proofs.YtgbjojokjekmhaaGreatDoor.PXC
open Go.Proofs.YtgbjojokjekmhaaGreatDoor
open Go.RowKit Go.Proofs.YtgbjojokjekmhaaGreatDoorW.PrintWords Go.Proofs.YtgbjojokjekmhaaGreatDoorW.PrintLast Go.Proofs.YtgbjojokjekmhaaGreatDoorW.PrintMore
attribute [local go_sem] max2_int min2_int max_two min_two max_three min_three max_four min_four   -- for this text's walks alone
set_option linter.unusedVariables false
set_option linter.unusedSimpArgs false

theorem phCx9_2 {P : Prop} (h : P := by repeat (first | (with_reducible first | exact HB.out | apply below_alloc | apply pw_below_drewN | apply below_drew1 | refine below_set ?_ GE275.out) | exact HB.out)) : P := h
theorem phCx9_3 {P : Prop} (h : P := by (with_reducible repeat (first | refine blk_drewN ?_ _ | refine blk_drew ?_ | refine blk_alloc ?_ _)); exact BK275.out) : P := h
theorem phCx9_6 {P : Prop} (h : P := by repeat (first | (with_reducible first | exact HB.out | apply below_alloc | apply pw_below_drewN | apply below_drew1 | refine below_set ?_ GE267.out) | exact HB.out)) : P := h
theorem phCx9_10 {P : Prop} (h : P := by (with_reducible repeat (first | refine blk_drewN ?_ _ | refine blk_drew ?_ | refine blk_alloc ?_ _)); exact BK267.out) : P := h
theorem phCx9_11 {P : Prop} (h : P := by first | rfl | (simp [errW_none, errW_some] <;> rfl) | (simp only [append_nothing]; done) | (simp only [append_nothing]; rfl) | (simp only [← hji5]; first | rfl | (simp [errW_none, errW_some] <;> rfl)) | (simp [*, errW_none, errW_some] <;> rfl)) : P := h
theorem phCx9_12 {P : Prop} (h : P := by (with_reducible repeat (first | refine blk_drewN ?_ _ | refine blk_drew ?_ | refine blk_alloc ?_ _)); refine blk_put (cs := #[.bool t263, .string t264, .int .i64 0]) ?_ 2 _ (by first | rfl | (simp; done)); (with_reducible repeat (first | refine blk_drewN ?_ _ | refine blk_drew ?_ | refine blk_alloc ?_ _)); refine blk_put (cs := #[.bool t263, .string (⟨#[]⟩ : ByteArray), .int .i64 0]) ?_ 1 _ (by first | rfl | (simp; done)); (with_reducible repeat (first | refine blk_drewN ?_ _ | refine blk_drew ?_ | refine blk_alloc ?_ _)); refine blk_put (cs := #[.bool false, .string (⟨#[]⟩ : ByteArray), .int .i64 0]) ?_ 0 _ (by first | rfl | (simp; done)); (with_reducible repeat (first | refine blk_drewN ?_ _ | refine blk_drew ?_ | refine blk_alloc ?_ _)); exact BK267.out) : P := h
theorem phCx9_13 {P : Prop} (h : P := by (with_reducible repeat (first | refine blk_drewN ?_ _ | refine blk_drew ?_ | refine blk_alloc ?_ _)); refine blk_put (cs := #[.bool t271, .string t272, .int .i64 0]) ?_ 2 _ (by first | rfl | (simp; done)); (with_reducible repeat (first | refine blk_drewN ?_ _ | refine blk_drew ?_ | refine blk_alloc ?_ _)); refine blk_put (cs := #[.bool t271, .string (⟨#[]⟩ : ByteArray), .int .i64 0]) ?_ 1 _ (by first | rfl | (simp; done)); (with_reducible repeat (first | refine blk_drewN ?_ _ | refine blk_drew ?_ | refine blk_alloc ?_ _)); refine blk_put (cs := #[.bool false, .string (⟨#[]⟩ : ByteArray), .int .i64 0]) ?_ 0 _ (by first | rfl | (simp; done)); (with_reducible repeat (first | refine blk_drewN ?_ _ | refine blk_drew ?_ | refine blk_alloc ?_ _)); exact BK275.out) : P := h
/-! ### fixed_row: function 53 -/
def fixed_row.f (k : Nat) (a0 : ByteArray) (a1 : Int) : Option (ByteArray × Bool) := if a1 < 0 then (some ((⟨#[]⟩ : ByteArray), false)) else ((numeral_Round.f k a0 a1 false).bind fun bt259 => ((strings_Repeat.f (⟨#[48]⟩ : ByteArray) (mx (wrap64 (a1 - (bt259.1.size : Int))) 0)).bind fun t262 => (if bt259.1.size + t262.size ≤ 9223372036854775807 then (if bt259.2.1 = true then (if 1 + (bt259.1 ++ t262).size ≤ 9223372036854775807 then (some ((⟨#[49]⟩ : ByteArray) ++ (bt259.1 ++ t262), bt259.2.1)) else (none)) else (some (bt259.1 ++ t262, bt259.2.1))) else (none))))
theorem fixed_row.mono : ∀ a0 a1 k, LeO (fixed_row.f k a0 a1) (fixed_row.f (k + 1) a0 a1) := by
  intro a0 a1 k; unfold fixed_row.f; repeat' first
      | (with_reducible exact numeral_Round.mono _ _ _ _)
      | (with_reducible exact LeO.refl _)
      | (with_reducible exact LeO.none _)
      | (with_reducible refine LeO.ite ?_ ?_)
      | (with_reducible refine LeO.bind ?_ (fun _ => ?_))
      | exact numeral_Round.mono _ _ _ _
      | exact LeO.none _
      | refine LeO.ite ?_ ?_
      | refine LeO.bind ?_ (fun _ => ?_)
set_option maxHeartbeats 8000000 in
set_option maxRecDepth 100000 in
theorem fixed_row.calls (k : Nat) (a0 : ByteArray) (a1 : Int) (r1 : ByteArray) (r2 : Bool) (w : World) (h : fixed_row.f k a0 a1 = some (r1, r2)) (HG : Aside0 (GW w) := by exact pz5) :
    Calls Tryz.prog 53 #[.string a0, .int .i64 a1] w fun e w' => e = .returned (.tuple #[.string r1, .bool r2]) ∧ Below w.heap.size w w' := by
  have HB := Aside0.mk (Below.refl w.heap.size w); have H : (if a1 < 0 then (some ((⟨#[]⟩ : ByteArray), false)) else ((numeral_Round.f k a0 a1 false).bind fun bt259 => ((strings_Repeat.f (⟨#[48]⟩ : ByteArray) (mx (wrap64 (a1 - (bt259.1.size : Int))) 0)).bind fun t262 => (if bt259.1.size + t262.size ≤ 9223372036854775807 then (if bt259.2.1 = true then (if 1 + (bt259.1 ++ t262).size ≤ 9223372036854775807 then (some ((⟨#[49]⟩ : ByteArray) ++ (bt259.1 ++ t262), bt259.2.1)) else (none)) else (some (bt259.1 ++ t262, bt259.2.1))) else (none))))) = some (r1, r2) := h; clear h; by_cases c3 : a1 < 0
  · rw [if_pos c3] at H
    have c3b0 : decide (a1 < 0) = true := decide_eq_true c3; clear c3; simp only [Option.some.injEq, Prod.mk.injEq] at H; obtain ⟨rfl, rfl⟩ := H; go_enter Tryz.func53, Tryz.ntmps53; go_wp2; go_ret2; exact ⟨by exact pz2, by exact pz1⟩
  rw [if_neg c3] at H; have c3b0 : decide (a1 < 0) = false := decide_eq_false c3; clear c3; replace H := Option.bind_eq_some_iff.mp H; obtain ⟨⟨t259, t260, t261⟩, A40, H⟩ := H; (try dsimp only at H); have A4 := Aside0.mk A40; clear A40; obtain ⟨ji5, hji5⟩ : ∃ j_ : Int, (mx (wrap64 (a1 - (t259.size : Int))) 0) = j_ := ⟨_, rfl⟩; replace H : ((strings_Repeat.f (⟨#[48]⟩ : ByteArray) (ji5)).bind fun t262 => (if t259.size + t262.size ≤ 9223372036854775807 then (if t260 = true then (if 1 + (t259 ++ t262).size ≤ 9223372036854775807 then (some ((⟨#[49]⟩ : ByteArray) ++ (t259 ++ t262), t260)) else (none)) else (some (t259 ++ t262, t260))) else (none))) = some (r1, r2) := by first | (rw [hji5] at H; exact H) | (simp only [hji5] at H ⊢; exact H)
  (try rw [hji5] at A4)
  (try (have hji5l : 0 ≤ ji5 := by (rw [← hji5]; unfold mx; (repeat' split) <;> omega)))
  (try (have hji5m : 0 ≤ ji5 := by omega))
  have hji5_ : (if (wrap64 (a1 - (t259.size : Int))) < 0 then 0 else (wrap64 (a1 - (t259.size : Int)))) = ji5 := hji5; replace H := Option.bind_eq_some_iff.mp H; obtain ⟨t262, A60, H⟩ := H; (try dsimp only at H); have A6 := Aside0.mk A60; clear A60; by_cases c7 : t259.size + t262.size ≤ 9223372036854775807
  · rw [if_pos c7] at H
    have c7b0 := eq_true c7; have c7b1 : decide (t259.size + t262.size ≤ 9223372036854775807) = true := decide_eq_true c7; (try have c7b2 : (9223372036854775807 < t259.size + t262.size) = False := eq_false (Nat.not_lt.2 c7)); (try have c7b3 := c7b2); (try simp only [ByteArray.size_append, size_lit, List.size_toArray, List.length_cons, List.length_nil, Nat.reduceAdd] at c7b3); by_cases c8 : t260 = true
    · subst c8
      have H1 : (if 1 + (t259 ++ t262).size ≤ 9223372036854775807 then (some ((⟨#[49]⟩ : ByteArray) ++ (t259 ++ t262), true)) else (none)) = some (r1, r2) := by rw [if_pos rfl] at H; exact H
      clear H; have H := H1; clear H1; by_cases c9 : 1 + (t259 ++ t262).size ≤ 9223372036854775807
      · rw [if_pos c9] at H
        have c9b0 := eq_true c9; have c9b1 : decide (1 + (t259 ++ t262).size ≤ 9223372036854775807) = true := decide_eq_true c9; (try have c9b2 : (9223372036854775807 < 1 + (t259 ++ t262).size) = False := eq_false (Nat.not_lt.2 c9)); (try have c9b3 := c9b2); (try simp only [ByteArray.size_append, size_lit, List.size_toArray, List.length_cons, List.length_nil, Nat.reduceAdd] at c9b3); simp only [Option.some.injEq, Prod.mk.injEq] at H; obtain ⟨rfl, rfl⟩ := H; go_enter Tryz.func53, Tryz.ntmps53; go_wp2_with (first | ((with_reducible refine gate_callee (f := 93) rfl ?_); refine goesL_ (some 14) rfl rfl Tryz.func93 (by kernel_rfl) rfl #[.string a0, .int .i64 a1, .bool false] rfl (by exact pz4) ?_; (with_reducible refine (numeral_Round.calls k a0 a1 false t259 true t261 _ A4.out).mono ?_); rintro e w10 ⟨rfl, hb⟩; refine ⟨_, rfl, ?_⟩; have n0_ := Aside0.mk (below_step (by exact pz1) hb); clear HB; have HB := n0_; clear n0_; (try clear hb); (try clear hb2); (try clear hk); (try clear hi)) | ((with_reducible refine gate_callee (f := 54) rfl ?_); refine goesL_ (some 24) rfl rfl Tryz.func54 (by kernel_rfl) rfl #[.string (⟨#[48]⟩ : ByteArray), .int .i64 ji5] rfl (by (try simp only [List.map_toArray, List.map_cons, List.map_nil]); first | done | (simp only [hji5]; rfl) | rfl | (simp only [List.length_drop, List.length_take]; rfl)) ?_; (with_reducible refine (strings_Repeat.calls (⟨#[48]⟩ : ByteArray) ji5 t262 _ A6.out).mono ?_); rintro e w11 ⟨rfl, hb⟩; refine ⟨_, rfl, ?_⟩; have n0_ := Aside0.mk (below_step (by exact pz1) hb); clear HB; have HB := n0_; clear n0_; (try clear hb); (try clear hb2); (try clear hk); (try clear hi))); go_ret2; exact ⟨by exact phCx9_11, by exact pz1⟩
      rw [if_neg c9] at H; exact absurd H (by simp)
    replace c8 := Bool.eq_false_iff.mpr c8; subst c8; have H1 : (some (t259 ++ t262, false)) = some (r1, r2) := by rw [if_neg (show ¬ (false = true) by decide)] at H; exact H
    clear H; have H := H1; clear H1; simp only [Option.some.injEq, Prod.mk.injEq] at H; obtain ⟨rfl, rfl⟩ := H; go_enter Tryz.func53, Tryz.ntmps53; go_wp2_with (first | ((with_reducible refine gate_callee (f := 93) rfl ?_); refine goesL_ (some 14) rfl rfl Tryz.func93 (by kernel_rfl) rfl #[.string a0, .int .i64 a1, .bool false] rfl (by exact pz4) ?_; (with_reducible refine (numeral_Round.calls k a0 a1 false t259 false t261 _ A4.out).mono ?_); rintro e w12 ⟨rfl, hb⟩; refine ⟨_, rfl, ?_⟩; have n0_ := Aside0.mk (below_step (by exact pz1) hb); clear HB; have HB := n0_; clear n0_; (try clear hb); (try clear hb2); (try clear hk); (try clear hi)) | ((with_reducible refine gate_callee (f := 54) rfl ?_); refine goesL_ (some 24) rfl rfl Tryz.func54 (by kernel_rfl) rfl #[.string (⟨#[48]⟩ : ByteArray), .int .i64 ji5] rfl (by (try simp only [List.map_toArray, List.map_cons, List.map_nil]); first | done | (simp only [hji5]; rfl) | rfl | (simp only [List.length_drop, List.length_take]; rfl)) ?_; (with_reducible refine (strings_Repeat.calls (⟨#[48]⟩ : ByteArray) ji5 t262 _ A6.out).mono ?_); rintro e w13 ⟨rfl, hb⟩; refine ⟨_, rfl, ?_⟩; have n0_ := Aside0.mk (below_step (by exact pz1) hb); clear HB; have HB := n0_; clear n0_; (try clear hb); (try clear hb2); (try clear hk); (try clear hi))); go_ret2; exact ⟨by exact phCx9_11, by exact pz1⟩
  rw [if_neg c7] at H; exact absurd H (by simp)

/-! ### fixed_Figures: function 22 -/
def fixed_Figures.j0 : Nat → Int → Bool → Bool → ByteArray → Int → Option (ByteArray × Int × Int)
  | 0, _, _, _, _, _ => none
  | k + 1, x1, x25, x268000, x268001, x268002 => if x25 = true then (some ((⟨#[]⟩ : ByteArray), 0, 1)) else (if x268001.toList = ([48] : List UInt8) then ((strings_Repeat.f (⟨#[48]⟩ : ByteArray) x1).bind fun t268 => (some (t268, 0, 0))) else ((fixed_row.f k x268001 x1).bind fun bt269 => (if bt269.2 = true then (if 0 ≤ x1 then (if x1 ≤ (bt269.1.size : Int) then (some (bt269.1.extract 0 (x1 : Int).toNat, wrap64 ((wrap64 ((wrap64 (x268002 + (x268001.size : Int))) - 1)) + 1), 0)) else (none)) else (none)) else (some (bt269.1, wrap64 ((wrap64 (x268002 + (x268001.size : Int))) - 1), 0)))))
def fixed_Figures.f (k : Nat) (a0 : Int) (a1 : Int) : Option (ByteArray × Int × Int) := (fixed_All.f k a0).bind fun bt263 => (if bt263.2.2.2 = 0 then (if a1 < 1 then (fixed_Figures.j0 k a1 true bt263.1 bt263.2.1 bt263.2.2.1) else (fixed_Figures.j0 k a1 (decide (a1 > 4200)) bt263.1 bt263.2.1 bt263.2.2.1)) else (some ((⟨#[]⟩ : ByteArray), 0, bt263.2.2.2)))
theorem fixed_Figures.mono_l : ∀ k, (∀ y0 y1 y2 y3 y4, LeO (fixed_Figures.j0 k y0 y1 y2 y3 y4) (fixed_Figures.j0 (k + 1) y0 y1 y2 y3 y4))
  | 0 => fun _ _ _ _ _ r h => by simp [fixed_Figures.j0] at h
  | k + 1 => by
    have ih0 := fixed_Figures.mono_l k
    · intro y0 y1 y2 y3 y4
      unfold fixed_Figures.j0
      repeat' first
      | (with_reducible exact ih0 _ _ _ _ _)
      | (with_reducible exact fixed_All.mono _ _)
      | (with_reducible exact fixed_row.mono _ _ _)
      | (with_reducible exact LeO.refl _)
      | (with_reducible exact LeO.none _)
      | (with_reducible refine LeO.ite ?_ ?_)
      | (with_reducible refine LeO.bind ?_ (fun _ => ?_))
      | exact ih0 _ _ _ _ _
      | exact fixed_All.mono _ _
      | exact fixed_row.mono _ _ _
      | exact LeO.none _
      | refine LeO.ite ?_ ?_
      | refine LeO.bind ?_ (fun _ => ?_)
theorem fixed_Figures.mono : ∀ a0 a1 k, LeO (fixed_Figures.f k a0 a1) (fixed_Figures.f (k + 1) a0 a1) := by
  intro a0 a1 k; have ih0 := fixed_Figures.mono_l k; unfold fixed_Figures.f; repeat' first
      | (with_reducible exact ih0 _ _ _ _ _)
      | (with_reducible exact fixed_All.mono _ _)
      | (with_reducible exact fixed_row.mono _ _ _)
      | (with_reducible exact LeO.refl _)
      | (with_reducible exact LeO.none _)
      | (with_reducible refine LeO.ite ?_ ?_)
      | (with_reducible refine LeO.bind ?_ (fun _ => ?_))
      | exact ih0 _ _ _ _ _
      | exact fixed_All.mono _ _
      | exact fixed_row.mono _ _ _
      | exact LeO.none _
      | refine LeO.ite ?_ ?_
      | refine LeO.bind ?_ (fun _ => ?_)
theorem fixed_Figures.w1 {P : Prop} (h : P := by
  go_wp2_with (first | ((with_reducible refine gate_callee (f := 54) rfl ?_); refine goesL_ (some 30) rfl rfl Tryz.func54 (by kernel_rfl) rfl #[.string (⟨#[48]⟩ : ByteArray), .int .i64 a1] rfl (by exact pz4) ?_; (with_reducible refine (strings_Repeat.calls (⟨#[48]⟩ : ByteArray) a1 t268 _ A12.out).mono ?_); rintro e w14 ⟨rfl, hb⟩; refine ⟨_, rfl, ?_⟩; have n0_ := Aside0.mk (blk_below (g := gb267) (o := .cells #[.bool t263, .string t264, .int .i64 t265] 46 (0, 0)) (by exact phCx9_10) hb); have n1_ := Aside0.mk (below_step (by exact phCx9_6) hb); clear BK267; clear HB; have BK267 := n0_; have HB := n1_; clear n0_ n1_; (try clear hb); (try clear hb2); (try clear hk); (try clear hi)) | ((with_reducible refine gate_callee (f := 53) rfl ?_); refine goesL_ (some 35) rfl rfl Tryz.func53 (by kernel_rfl) rfl #[.string t264, .int .i64 a1] rfl (by exact pz4) ?_; (with_reducible refine (fixed_row.calls kj4 t264 a1 t269 true _ A15.out).mono ?_); rintro e w20 ⟨rfl, hb⟩; refine ⟨_, rfl, ?_⟩; have n0_ := Aside0.mk (blk_below (g := gb267) (o := .cells #[.bool t263, .string t264, .int .i64 t265] 46 (0, 0)) (by exact phCx9_10) hb); have n1_ := Aside0.mk (below_step (by exact phCx9_6) hb); clear BK267; clear HB; have BK267 := n0_; have HB := n1_; clear n0_ n1_; (try clear hb); (try clear hb2); (try clear hk); (try clear hi); have hcz21_0 : w20.cell? ⟨gb267, 0, none⟩ = some (.bool t263) := (blk_cell BK267.out 0).trans rfl; have hcz21_1 : w20.cell? ⟨gb267, 1, none⟩ = some (.string t264) := (blk_cell BK267.out 1).trans rfl; have hcz21_2 : w20.cell? ⟨gb267, 2, none⟩ = some (.int .i64 t265) := (blk_cell BK267.out 2).trans rfl; have hfz21_0 := blk_frozen BK267.out 0; have hfz21_1 := blk_frozen BK267.out 1; have hfz21_2 := blk_frozen BK267.out 2)); go_ret3
  exact ⟨by exact pz2, by exact phCx9_6⟩) : P := h
set_option maxHeartbeats 8000000 in
set_option maxRecDepth 100000 in
theorem fixed_Figures.calls (k : Nat) (a0 : Int) (a1 : Int) (r1 : ByteArray) (r2 : Int) (r3 : Int) (w : World) (h : fixed_Figures.f k a0 a1 = some (r1, r2, r3)) (HG : Aside0 (GW w) := by exact pz5) :
    Calls Tryz.prog 22 #[.int .u64 a0, .int .i64 a1] w fun e w' => e = .returned (.tuple #[.string r1, .int .i64 r2, .int .i64 r3]) ∧ Below w.heap.size w w' := by
  have hu46 := Tryz.underlying46; have HB := Aside0.mk (Below.refl w.heap.size w); have H : ((fixed_All.f k a0).bind fun bt263 => (if bt263.2.2.2 = 0 then (if a1 < 1 then (fixed_Figures.j0 k a1 true bt263.1 bt263.2.1 bt263.2.2.1) else (fixed_Figures.j0 k a1 (decide (a1 > 4200)) bt263.1 bt263.2.1 bt263.2.2.1)) else (some ((⟨#[]⟩ : ByteArray), 0, bt263.2.2.2)))) = some (r1, r2, r3) := h; clear h; replace H := Option.bind_eq_some_iff.mp H; obtain ⟨⟨t263, t264, t265, t266⟩, A30, H⟩ := H; (try dsimp only at H); have A3 := Aside0.mk A30; clear A30; by_cases c4 : t266 = 0
  · rw [if_pos c4] at H
    have c4b0 : (t266 == 0) = true := beq_iff_eq.mpr c4; have c4b1 : (t266 != 0) = false := bne_eq_false_iff_eq.mpr c4; clear c4; have HC5 := Aside0.mk H; clear H; go_enter Tryz.func22, Tryz.ntmps22; go_upto_region 4 with (first | ((with_reducible refine gate_callee (f := 26) rfl ?_); refine goesL_ (some 14) rfl rfl Tryz.func26 (by kernel_rfl) rfl #[.int .u64 a0] rfl (by exact pz4) ?_; (with_reducible refine (fixed_All.calls k a0 t263 t264 t265 t266 _ A3.out).mono ?_); rintro e w6 ⟨rfl, hb⟩; refine ⟨_, rfl, ?_⟩; have n0_ := Aside0.mk (below_step (by exact pz1) hb); clear HB; have HB := n0_; clear n0_; (try clear hb); (try clear hb2); (try clear hk); (try clear hi)) | ((with_reducible refine gate_dst (N := 7) rfl ?_); refine box_event ?hg (N := 7) ?hd (cs := #[.bool false, .string (⟨#[]⟩ : ByteArray), .int .i64 0]) (t := 46) ?hr ?_; (case hd => rfl); (case hg => rfl); (case hr => first | (go_simp; done) | (go_simp; rfl)); intro gb267 hg w7 hbox hb; have n0_ := Aside0.mk (below_step (by exact pz1) hb); have n1_ := Aside0.mk (hbox); have n2_ := Aside0.mk ((by rw [hg]; exact (below_size (by exact pz1)) : w.heap.size ≤ gb267)); have n3_ := Aside0.mk ((by rw [hg]; exact (below_size (by exact pz1)) : w.heap.size ≤ gb267)); clear HB; have HB := n0_; have BK267 := n1_; have GW267 := n2_; have GE267 := n3_; clear n0_ n1_ n2_ n3_; clear hb hbox hg; have hcz8_0 : w7.cell? ⟨gb267, 0, none⟩ = some (.bool false) := (blk_cell BK267.out 0).trans rfl; have hcz8_1 : w7.cell? ⟨gb267, 1, none⟩ = some (.string (⟨#[]⟩ : ByteArray)) := (blk_cell BK267.out 1).trans rfl; have hcz8_2 : w7.cell? ⟨gb267, 2, none⟩ = some (.int .i64 0) := (blk_cell BK267.out 2).trans rfl; have hfz8_0 := blk_frozen BK267.out 0; have hfz8_1 := blk_frozen BK267.out 1; have hfz8_2 := blk_frozen BK267.out 2))
    (try simp only [Act.put, List.setIfInBounds_toArray, List.set_cons_zero, List.set_cons_succ])
    go_cut [25] (fun v25 wc => ∃ (kq : Nat) (x25_4 : Bool), v25 = .bool x25_4 ∧ Aside0 (fixed_Figures.j0 kq a1 x25_4 t263 t264 t265 = some (r1, r2, r3)) ∧ Aside0 (kq ≤ k) ∧ Aside0 (wc.heap[gb267]? = some (.cells #[.bool t263, .string t264, .int .i64 t265] 46 (0, 0))) ∧ Aside0 (Below w.heap.size w wc))
    case first =>
      have H := HC5.out; clear HC5; by_cases c9 : a1 < 1
      · rw [if_pos c9] at H
        have c9b0 : decide (a1 < 1) = true := decide_eq_true c9; clear c9; (first | rw [c9b0] | (simp only [i64_w, i32_w]; rw [c9b0]) | skip)
        have H' := Aside0.mk H; clear H; go_wp2; go_meet
        case rel => exact ⟨_, (true), (by first | rfl | (simp; done) | (simp [*]; done)), H', ⟨by first | omega | exact Nat.le_refl _⟩, ⟨by exact phCx9_12⟩, ⟨by exact phCx9_6⟩⟩
      rw [if_neg c9] at H; have c9b0 : decide (a1 < 1) = false := decide_eq_false c9; clear c9; (first | rw [c9b0] | (simp only [i64_w, i32_w]; rw [c9b0]) | skip)
      have H' := Aside0.mk H; clear H; go_wp2; go_meet
      case rel => exact ⟨_, (decide (a1 > 4200)), (by first | rfl | (simp; done) | (simp [*]; done)), H', ⟨by first | omega | exact Nat.le_refl _⟩, ⟨by exact phCx9_12⟩, ⟨by exact phCx9_6⟩⟩
    case rest =>
      clear HC5; (try clear c2); (try clear p2); (try clear c4); (try clear c4b0); (try clear c4b1); (try clear c9); (try clear c9b0); (try clear hcz8_0); (try clear hcz8_1); (try clear hcz8_2); (try clear hfz8_0); (try clear hfz8_1); (try clear hfz8_2); obtain ⟨kq, x25_4, rfl, HA, HJ4, BK267, HB⟩ := hcut; cases kq with
      | zero => exact absurd HA.out (by simp [fixed_Figures.j0])
      | succ kj4 =>
        have H := HA.out; clear HA; simp only [fixed_Figures.j0] at H; by_cases c10 : x25_4 = true
        · subst c10
          have H1 : (some ((⟨#[]⟩ : ByteArray), 0, 1)) = some (r1, r2, r3) := by rw [if_pos rfl] at H; first | exact H | (simp only [append_nothing] at H; exact H)
          clear H; have H := H1; clear H1; simp only [Option.some.injEq, Prod.mk.injEq] at H; obtain ⟨rfl, rfl, rfl⟩ := H; go_wp2; go_ret3
          exact ⟨by exact pz2, by exact phCx9_6⟩
        replace c10 := Bool.eq_false_iff.mpr c10; subst c10; have H1 : (if t264.toList = ([48] : List UInt8) then ((strings_Repeat.f (⟨#[48]⟩ : ByteArray) a1).bind fun t268 => (some (t268, 0, 0))) else ((fixed_row.f kj4 t264 a1).bind fun bt269 => (if bt269.2 = true then (if 0 ≤ a1 then (if a1 ≤ (bt269.1.size : Int) then (some (bt269.1.extract 0 (a1 : Int).toNat, wrap64 ((wrap64 ((wrap64 (t265 + (t264.size : Int))) - 1)) + 1), 0)) else (none)) else (none)) else (some (bt269.1, wrap64 ((wrap64 (t265 + (t264.size : Int))) - 1), 0))))) = some (r1, r2, r3) := by rw [if_neg (show ¬ (false = true) by decide)] at H; exact H
        clear H; have H := H1; clear H1; by_cases c11 : t264.toList = ([48] : List UInt8)
        · rw [if_pos c11] at H
          have c11b0 : (t264.toList == ([48] : List UInt8)) = true := beq_iff_eq.mpr c11; have c11b1 : (t264.toList != ([48] : List UInt8)) = false := bne_eq_false_iff_eq.mpr c11; clear c11; replace H := Option.bind_eq_some_iff.mp H; obtain ⟨t268, A120, H⟩ := H; (try dsimp only at H); have A12 := Aside0.mk A120; clear A120; simp only [Option.some.injEq, Prod.mk.injEq] at H; obtain ⟨rfl, rfl, rfl⟩ := H; have hcz13_0 : wc.cell? ⟨gb267, 0, none⟩ = some (.bool t263) := (blk_cell BK267.out 0).trans rfl; have hcz13_1 : wc.cell? ⟨gb267, 1, none⟩ = some (.string t264) := (blk_cell BK267.out 1).trans rfl; have hcz13_2 : wc.cell? ⟨gb267, 2, none⟩ = some (.int .i64 t265) := (blk_cell BK267.out 2).trans rfl; have hfz13_0 := blk_frozen BK267.out 0; have hfz13_1 := blk_frozen BK267.out 1; have hfz13_2 := blk_frozen BK267.out 2; exact fixed_Figures.w1
        rw [if_neg c11] at H; have c11b0 : (t264.toList == ([48] : List UInt8)) = false := beq_eq_false_iff_ne.mpr c11; have c11b1 : (t264.toList != ([48] : List UInt8)) = true := bne_iff_ne.mpr c11; replace H := Option.bind_eq_some_iff.mp H; obtain ⟨⟨t269, t270⟩, A150, H⟩ := H; (try dsimp only at H); have A15 := Aside0.mk A150; clear A150; by_cases c16 : t270 = true
        · subst c16
          have H1 : (if 0 ≤ a1 then (if a1 ≤ (t269.size : Int) then (some (t269.extract 0 (a1 : Int).toNat, wrap64 ((wrap64 ((wrap64 (t265 + (t264.size : Int))) - 1)) + 1), 0)) else (none)) else (none)) = some (r1, r2, r3) := by rw [if_pos rfl] at H; exact H
          clear H; have H := H1; clear H1; by_cases c17 : 0 ≤ a1
          · rw [if_pos c17] at H
            have c17b0 := eq_true c17; have c17b1 : decide (0 ≤ a1) = true := decide_eq_true c17; clear c17; by_cases c18 : a1 ≤ (t269.size : Int)
            · rw [if_pos c18] at H
              have c18b0 := eq_true c18; have c18b1 : decide (a1 ≤ (t269.size : Int)) = true := decide_eq_true c18; clear c18; simp only [Option.some.injEq, Prod.mk.injEq] at H; obtain ⟨rfl, rfl, rfl⟩ := H; have hcz19_0 : wc.cell? ⟨gb267, 0, none⟩ = some (.bool t263) := (blk_cell BK267.out 0).trans rfl; have hcz19_1 : wc.cell? ⟨gb267, 1, none⟩ = some (.string t264) := (blk_cell BK267.out 1).trans rfl; have hcz19_2 : wc.cell? ⟨gb267, 2, none⟩ = some (.int .i64 t265) := (blk_cell BK267.out 2).trans rfl; have hfz19_0 := blk_frozen BK267.out 0; have hfz19_1 := blk_frozen BK267.out 1; have hfz19_2 := blk_frozen BK267.out 2; exact fixed_Figures.w1
            rw [if_neg c18] at H; exact absurd H (by simp)
          rw [if_neg c17] at H; exact absurd H (by simp)
        replace c16 := Bool.eq_false_iff.mpr c16; subst c16; have H1 : (some (t269, wrap64 ((wrap64 (t265 + (t264.size : Int))) - 1), 0)) = some (r1, r2, r3) := by rw [if_neg (show ¬ (false = true) by decide)] at H; exact H
        clear H; have H := H1; clear H1; simp only [Option.some.injEq, Prod.mk.injEq] at H; obtain ⟨rfl, rfl, rfl⟩ := H; have hcz22_0 : wc.cell? ⟨gb267, 0, none⟩ = some (.bool t263) := (blk_cell BK267.out 0).trans rfl; have hcz22_1 : wc.cell? ⟨gb267, 1, none⟩ = some (.string t264) := (blk_cell BK267.out 1).trans rfl; have hcz22_2 : wc.cell? ⟨gb267, 2, none⟩ = some (.int .i64 t265) := (blk_cell BK267.out 2).trans rfl; have hfz22_0 := blk_frozen BK267.out 0; have hfz22_1 := blk_frozen BK267.out 1; have hfz22_2 := blk_frozen BK267.out 2; go_wp2_with (first | ((with_reducible refine gate_callee (f := 53) rfl ?_); refine goesL_ (some 35) rfl rfl Tryz.func53 (by kernel_rfl) rfl #[.string t264, .int .i64 a1] rfl (by exact pz4) ?_; (with_reducible refine (fixed_row.calls kj4 t264 a1 t269 false _ A15.out).mono ?_); rintro e w23 ⟨rfl, hb⟩; refine ⟨_, rfl, ?_⟩; have n0_ := Aside0.mk (blk_below (g := gb267) (o := .cells #[.bool t263, .string t264, .int .i64 t265] 46 (0, 0)) (by exact phCx9_10) hb); have n1_ := Aside0.mk (below_step (by exact phCx9_6) hb); clear BK267; clear HB; have BK267 := n0_; have HB := n1_; clear n0_ n1_; (try clear hb); (try clear hb2); (try clear hk); (try clear hi); have hcz24_0 : w23.cell? ⟨gb267, 0, none⟩ = some (.bool t263) := (blk_cell BK267.out 0).trans rfl; have hcz24_1 : w23.cell? ⟨gb267, 1, none⟩ = some (.string t264) := (blk_cell BK267.out 1).trans rfl; have hcz24_2 : w23.cell? ⟨gb267, 2, none⟩ = some (.int .i64 t265) := (blk_cell BK267.out 2).trans rfl; have hfz24_0 := blk_frozen BK267.out 0; have hfz24_1 := blk_frozen BK267.out 1; have hfz24_2 := blk_frozen BK267.out 2)); go_ret3
        exact ⟨by exact pz2, by exact phCx9_6⟩
  rw [if_neg c4] at H; have c4b0 : (t266 == 0) = false := beq_eq_false_iff_ne.mpr c4; have c4b1 : (t266 != 0) = true := bne_iff_ne.mpr c4; simp only [Option.some.injEq, Prod.mk.injEq] at H; obtain ⟨rfl, rfl, rfl⟩ := H; go_enter Tryz.func22, Tryz.ntmps22; go_wp2_with (first | ((with_reducible refine gate_callee (f := 26) rfl ?_); refine goesL_ (some 14) rfl rfl Tryz.func26 (by kernel_rfl) rfl #[.int .u64 a0] rfl (by exact pz4) ?_; (with_reducible refine (fixed_All.calls k a0 t263 t264 t265 t266 _ A3.out).mono ?_); rintro e w25 ⟨rfl, hb⟩; refine ⟨_, rfl, ?_⟩; have n0_ := Aside0.mk (below_step (by exact pz1) hb); clear HB; have HB := n0_; clear n0_; (try clear hb); (try clear hb2); (try clear hk); (try clear hi)) | ((with_reducible refine gate_dst (N := 7) rfl ?_); refine box_event ?hg (N := 7) ?hd (cs := #[.bool false, .string (⟨#[]⟩ : ByteArray), .int .i64 0]) (t := 46) ?hr ?_; (case hd => rfl); (case hg => rfl); (case hr => first | (go_simp; done) | (go_simp; rfl)); intro gb267 hg w26 hbox hb; have n0_ := Aside0.mk (below_step (by exact pz1) hb); have n1_ := Aside0.mk (hbox); have n2_ := Aside0.mk ((by rw [hg]; exact (below_size (by exact pz1)) : w.heap.size ≤ gb267)); have n3_ := Aside0.mk ((by rw [hg]; exact (below_size (by exact pz1)) : w.heap.size ≤ gb267)); clear HB; have HB := n0_; have BK267 := n1_; have GW267 := n2_; have GE267 := n3_; clear n0_ n1_ n2_ n3_; clear hb hbox hg; have hcz27_0 : w26.cell? ⟨gb267, 0, none⟩ = some (.bool false) := (blk_cell BK267.out 0).trans rfl; have hcz27_1 : w26.cell? ⟨gb267, 1, none⟩ = some (.string (⟨#[]⟩ : ByteArray)) := (blk_cell BK267.out 1).trans rfl; have hcz27_2 : w26.cell? ⟨gb267, 2, none⟩ = some (.int .i64 0) := (blk_cell BK267.out 2).trans rfl; have hfz27_0 := blk_frozen BK267.out 0; have hfz27_1 := blk_frozen BK267.out 1; have hfz27_2 := blk_frozen BK267.out 2)); go_ret3
  exact ⟨by exact pz2, by exact phCx9_6⟩

/-! ### fixed_Places: function 20 -/
def fixed_Places.j0 : Nat → Int → Bool → Bool → ByteArray → Int → Option (ByteArray × ByteArray × Int)
  | 0, _, _, _, _, _ => none
  | k + 1, x1, x24, x276000, x276001, x276002 => if x24 = true then (some ((⟨#[]⟩ : ByteArray), (⟨#[]⟩ : ByteArray), 1)) else ((fixed_row.f k x276001 (wrap64 ((wrap64 ((x276001.size : Int) + x276002)) + x1))).bind fun bt276 => (if x276001.toList = ([48] : List UInt8) then (if 0 ≤ x1 then ((strings_Repeat.f (⟨#[48]⟩ : ByteArray) (wrap64 ((wrap64 (x1 + 1))))).bind fun t278 => (if t278.size ≤ 9223372036854775807 then (if 0 ≤ (wrap64 ((t278.size : Int) - x1)) then (if (wrap64 ((t278.size : Int) - x1)) ≤ (t278.size : Int) then (some (t278.extract 0 ((wrap64 ((t278.size : Int) - x1)) : Int).toNat, t278.extract ((wrap64 ((t278.size : Int) - x1)) : Int).toNat t278.size, 0)) else (none)) else (none)) else (none))) else (if 0 ≤ (wrap64 (-x1)) then (if (wrap64 (-x1)) ≤ 0 then (some ((⟨#[]⟩ : ByteArray).extract 0 ((wrap64 (-x1)) : Int).toNat, (⟨#[]⟩ : ByteArray).extract ((wrap64 (-x1)) : Int).toNat (⟨#[]⟩ : ByteArray).size, 0)) else (none)) else (none))) else (if (bt276.1.size : Int) ≤ x1 then ((strings_Repeat.f (⟨#[48]⟩ : ByteArray) (wrap64 ((wrap64 (x1 + 1)) - (bt276.1.size : Int)))).bind fun t279 => (if t279.size + bt276.1.size ≤ 9223372036854775807 then (if 0 ≤ (wrap64 (((t279 ++ bt276.1).size : Int) - x1)) then (if (wrap64 (((t279 ++ bt276.1).size : Int) - x1)) ≤ ((t279 ++ bt276.1).size : Int) then (some ((t279 ++ bt276.1).extract 0 ((wrap64 (((t279 ++ bt276.1).size : Int) - x1)) : Int).toNat, (t279 ++ bt276.1).extract ((wrap64 (((t279 ++ bt276.1).size : Int) - x1)) : Int).toNat (t279 ++ bt276.1).size, 0)) else (none)) else (none)) else (none))) else (if 0 ≤ (wrap64 ((bt276.1.size : Int) - x1)) then (if (wrap64 ((bt276.1.size : Int) - x1)) ≤ (bt276.1.size : Int) then (some (bt276.1.extract 0 ((wrap64 ((bt276.1.size : Int) - x1)) : Int).toNat, bt276.1.extract ((wrap64 ((bt276.1.size : Int) - x1)) : Int).toNat bt276.1.size, 0)) else (none)) else (none)))))
def fixed_Places.f (k : Nat) (a0 : Int) (a1 : Int) : Option (ByteArray × ByteArray × Int) := (fixed_All.f k a0).bind fun bt271 => (if bt271.2.2.2 = 0 then (if a1 < 0 then (fixed_Places.j0 k a1 true bt271.1 bt271.2.1 bt271.2.2.1) else (fixed_Places.j0 k a1 (decide (a1 > 4200)) bt271.1 bt271.2.1 bt271.2.2.1)) else (some ((⟨#[]⟩ : ByteArray), (⟨#[]⟩ : ByteArray), bt271.2.2.2)))
theorem fixed_Places.mono_l : ∀ k, (∀ y0 y1 y2 y3 y4, LeO (fixed_Places.j0 k y0 y1 y2 y3 y4) (fixed_Places.j0 (k + 1) y0 y1 y2 y3 y4))
  | 0 => fun _ _ _ _ _ r h => by simp [fixed_Places.j0] at h
  | k + 1 => by
    have ih0 := fixed_Places.mono_l k
    · intro y0 y1 y2 y3 y4
      unfold fixed_Places.j0
      repeat' first
      | (with_reducible exact ih0 _ _ _ _ _)
      | (with_reducible exact fixed_All.mono _ _)
      | (with_reducible exact fixed_row.mono _ _ _)
      | (with_reducible exact LeO.refl _)
      | (with_reducible exact LeO.none _)
      | (with_reducible refine LeO.ite ?_ ?_)
      | (with_reducible refine LeO.bind ?_ (fun _ => ?_))
      | exact ih0 _ _ _ _ _
      | exact fixed_All.mono _ _
      | exact fixed_row.mono _ _ _
      | exact LeO.none _
      | refine LeO.ite ?_ ?_
      | refine LeO.bind ?_ (fun _ => ?_)
theorem fixed_Places.mono : ∀ a0 a1 k, LeO (fixed_Places.f k a0 a1) (fixed_Places.f (k + 1) a0 a1) := by
  intro a0 a1 k; have ih0 := fixed_Places.mono_l k; unfold fixed_Places.f; repeat' first
      | (with_reducible exact ih0 _ _ _ _ _)
      | (with_reducible exact fixed_All.mono _ _)
      | (with_reducible exact fixed_row.mono _ _ _)
      | (with_reducible exact LeO.refl _)
      | (with_reducible exact LeO.none _)
      | (with_reducible refine LeO.ite ?_ ?_)
      | (with_reducible refine LeO.bind ?_ (fun _ => ?_))
      | exact ih0 _ _ _ _ _
      | exact fixed_All.mono _ _
      | exact fixed_row.mono _ _ _
      | exact LeO.none _
      | refine LeO.ite ?_ ?_
      | refine LeO.bind ?_ (fun _ => ?_)
set_option maxHeartbeats 8000000 in
set_option maxRecDepth 100000 in
theorem fixed_Places.calls (k : Nat) (a0 : Int) (a1 : Int) (r1 : ByteArray) (r2 : ByteArray) (r3 : Int) (w : World) (h : fixed_Places.f k a0 a1 = some (r1, r2, r3)) (HG : Aside0 (GW w) := by exact pz5) :
    Calls Tryz.prog 20 #[.int .u64 a0, .int .i64 a1] w fun e w' => e = .returned (.tuple #[.string r1, .string r2, .int .i64 r3]) ∧ Below w.heap.size w w' := by
  have hu46 := Tryz.underlying46; have HB := Aside0.mk (Below.refl w.heap.size w); have H : ((fixed_All.f k a0).bind fun bt271 => (if bt271.2.2.2 = 0 then (if a1 < 0 then (fixed_Places.j0 k a1 true bt271.1 bt271.2.1 bt271.2.2.1) else (fixed_Places.j0 k a1 (decide (a1 > 4200)) bt271.1 bt271.2.1 bt271.2.2.1)) else (some ((⟨#[]⟩ : ByteArray), (⟨#[]⟩ : ByteArray), bt271.2.2.2)))) = some (r1, r2, r3) := h; clear h; replace H := Option.bind_eq_some_iff.mp H; obtain ⟨⟨t271, t272, t273, t274⟩, A30, H⟩ := H; (try dsimp only at H); have A3 := Aside0.mk A30; clear A30; by_cases c4 : t274 = 0
  · rw [if_pos c4] at H
    have c4b0 : (t274 == 0) = true := beq_iff_eq.mpr c4; have c4b1 : (t274 != 0) = false := bne_eq_false_iff_eq.mpr c4; clear c4; have HC5 := Aside0.mk H; clear H; go_enter Tryz.func20, Tryz.ntmps20; go_upto_region 4 with (first | (go_at_call 26; (with_reducible refine (fixed_All.calls k a0 t271 t272 t273 t274 _ A3.out).mono ?_); rintro e w6 ⟨rfl, hb⟩; have n0_ := Aside0.mk (below_step (by exact pz1) hb); clear HB; have HB := n0_; clear n0_; (try clear hb); (try clear hb2); (try clear hk); (try clear hi)) | ((with_reducible refine gate_dst (N := 7) rfl ?_); refine box_event ?hg (N := 7) ?hd (cs := #[.bool false, .string (⟨#[]⟩ : ByteArray), .int .i64 0]) (t := 46) ?hr ?_; (case hd => rfl); (case hg => rfl); (case hr => first | (go_simp; done) | (go_simp; rfl)); intro gb275 hg w7 hbox hb; have n0_ := Aside0.mk (below_step (by exact pz1) hb); have n1_ := Aside0.mk (hbox); have n2_ := Aside0.mk ((by rw [hg]; exact (below_size (by exact pz1)) : w.heap.size ≤ gb275)); have n3_ := Aside0.mk ((by rw [hg]; exact (below_size (by exact pz1)) : w.heap.size ≤ gb275)); clear HB; have HB := n0_; have BK275 := n1_; have GW275 := n2_; have GE275 := n3_; clear n0_ n1_ n2_ n3_; clear hb hbox hg; have hcz8_0 : w7.cell? ⟨gb275, 0, none⟩ = some (.bool false) := (blk_cell BK275.out 0).trans rfl; have hcz8_1 : w7.cell? ⟨gb275, 1, none⟩ = some (.string (⟨#[]⟩ : ByteArray)) := (blk_cell BK275.out 1).trans rfl; have hcz8_2 : w7.cell? ⟨gb275, 2, none⟩ = some (.int .i64 0) := (blk_cell BK275.out 2).trans rfl; have hfz8_0 := blk_frozen BK275.out 0; have hfz8_1 := blk_frozen BK275.out 1; have hfz8_2 := blk_frozen BK275.out 2))
    (repeat (go_quiet (fail); go_upto_region 4 with (first | (go_at_call 26; (with_reducible refine (fixed_All.calls k a0 t271 t272 t273 t274 _ A3.out).mono ?_); rintro e w6 ⟨rfl, hb⟩; have n0_ := Aside0.mk (below_step (by exact pz1) hb); clear HB; have HB := n0_; clear n0_; (try clear hb); (try clear hb2); (try clear hk); (try clear hi)) | ((with_reducible refine gate_dst (N := 7) rfl ?_); refine box_event ?hg (N := 7) ?hd (cs := #[.bool false, .string (⟨#[]⟩ : ByteArray), .int .i64 0]) (t := 46) ?hr ?_; (case hd => rfl); (case hg => rfl); (case hr => first | (go_simp; done) | (go_simp; rfl)); intro gb275 hg w7 hbox hb; have n0_ := Aside0.mk (below_step (by exact pz1) hb); have n1_ := Aside0.mk (hbox); have n2_ := Aside0.mk ((by rw [hg]; exact (below_size (by exact pz1)) : w.heap.size ≤ gb275)); have n3_ := Aside0.mk ((by rw [hg]; exact (below_size (by exact pz1)) : w.heap.size ≤ gb275)); clear HB; have HB := n0_; have BK275 := n1_; have GW275 := n2_; have GE275 := n3_; clear n0_ n1_ n2_ n3_; clear hb hbox hg; have hcz8_0 : w7.cell? ⟨gb275, 0, none⟩ = some (.bool false) := (blk_cell BK275.out 0).trans rfl; have hcz8_1 : w7.cell? ⟨gb275, 1, none⟩ = some (.string (⟨#[]⟩ : ByteArray)) := (blk_cell BK275.out 1).trans rfl; have hcz8_2 : w7.cell? ⟨gb275, 2, none⟩ = some (.int .i64 0) := (blk_cell BK275.out 2).trans rfl; have hfz8_0 := blk_frozen BK275.out 0; have hfz8_1 := blk_frozen BK275.out 1; have hfz8_2 := blk_frozen BK275.out 2)))); (try simp only [Act.put, List.setIfInBounds_toArray, List.set_cons_zero, List.set_cons_succ])
    go_cut [24] (fun v24 wc => ∃ (kq : Nat) (x24_4 : Bool), v24 = .bool x24_4 ∧ Aside0 (fixed_Places.j0 kq a1 x24_4 t271 t272 t273 = some (r1, r2, r3)) ∧ Aside0 (kq ≤ k) ∧ Aside0 (wc.heap[gb275]? = some (.cells #[.bool t271, .string t272, .int .i64 t273] 46 (0, 0))) ∧ Aside0 (Below w.heap.size w wc))
    case first =>
      have H := HC5.out; clear HC5; by_cases c9 : a1 < 0
      · rw [if_pos c9] at H
        have c9b0 : decide (a1 < 0) = true := decide_eq_true c9; clear c9; (first | rw [c9b0] | (simp only [i64_w, i32_w]; rw [c9b0]) | skip)
        have H' := Aside0.mk H; clear H; go_wp2; (repeat (go_quiet (fail); try go_wp2)); go_meet
        case rel => exact ⟨_, (true), (by first | rfl | (simp; done) | (simp [*]; done)), H', ⟨by first | omega | exact Nat.le_refl _⟩, ⟨by exact phCx9_13⟩, ⟨by exact phCx9_2⟩⟩
      rw [if_neg c9] at H; have c9b0 : decide (a1 < 0) = false := decide_eq_false c9; clear c9; (first | rw [c9b0] | (simp only [i64_w, i32_w]; rw [c9b0]) | skip)
      have H' := Aside0.mk H; clear H; go_wp2; (repeat (go_quiet (fail); try go_wp2)); go_meet
      case rel => exact ⟨_, (decide (a1 > 4200)), (by first | rfl | (simp; done) | (simp [*]; done)), H', ⟨by first | omega | exact Nat.le_refl _⟩, ⟨by exact phCx9_13⟩, ⟨by exact phCx9_2⟩⟩
    case rest =>
      clear HC5; (try clear c2); (try clear p2); (try clear c4); (try clear c4b0); (try clear c4b1); (try clear c9); (try clear c9b0); (try clear hcz8_0); (try clear hcz8_1); (try clear hcz8_2); (try clear hfz8_0); (try clear hfz8_1); (try clear hfz8_2); obtain ⟨kq, x24_4, rfl, HA, HJ4, BK275, HB⟩ := hcut; cases kq with
      | zero => exact absurd HA.out (by simp [fixed_Places.j0])
      | succ kj4 =>
        have H := HA.out; clear HA; simp only [fixed_Places.j0] at H; by_cases c10 : x24_4 = true
        · subst c10
          have H1 : (some ((⟨#[]⟩ : ByteArray), (⟨#[]⟩ : ByteArray), 1)) = some (r1, r2, r3) := by rw [if_pos rfl] at H; first | exact H | (simp only [append_nothing] at H; exact H)
          clear H; have H := H1; clear H1; simp only [Option.some.injEq, Prod.mk.injEq] at H; obtain ⟨rfl, rfl, rfl⟩ := H; go_wp2; (repeat (go_quiet (fail); try go_wp2)); go_ret3
          exact ⟨by exact pz2, by exact phCx9_2⟩
        replace c10 := Bool.eq_false_iff.mpr c10; subst c10; have H1 : ((fixed_row.f kj4 t272 (wrap64 ((wrap64 ((t272.size : Int) + t273)) + a1))).bind fun bt276 => (if t272.toList = ([48] : List UInt8) then (if 0 ≤ a1 then ((strings_Repeat.f (⟨#[48]⟩ : ByteArray) (wrap64 ((wrap64 (a1 + 1))))).bind fun t278 => (if t278.size ≤ 9223372036854775807 then (if 0 ≤ (wrap64 ((t278.size : Int) - a1)) then (if (wrap64 ((t278.size : Int) - a1)) ≤ (t278.size : Int) then (some (t278.extract 0 ((wrap64 ((t278.size : Int) - a1)) : Int).toNat, t278.extract ((wrap64 ((t278.size : Int) - a1)) : Int).toNat t278.size, 0)) else (none)) else (none)) else (none))) else (if 0 ≤ (wrap64 (-a1)) then (if (wrap64 (-a1)) ≤ 0 then (some ((⟨#[]⟩ : ByteArray).extract 0 ((wrap64 (-a1)) : Int).toNat, (⟨#[]⟩ : ByteArray).extract ((wrap64 (-a1)) : Int).toNat (⟨#[]⟩ : ByteArray).size, 0)) else (none)) else (none))) else (if (bt276.1.size : Int) ≤ a1 then ((strings_Repeat.f (⟨#[48]⟩ : ByteArray) (wrap64 ((wrap64 (a1 + 1)) - (bt276.1.size : Int)))).bind fun t279 => (if t279.size + bt276.1.size ≤ 9223372036854775807 then (if 0 ≤ (wrap64 (((t279 ++ bt276.1).size : Int) - a1)) then (if (wrap64 (((t279 ++ bt276.1).size : Int) - a1)) ≤ ((t279 ++ bt276.1).size : Int) then (some ((t279 ++ bt276.1).extract 0 ((wrap64 (((t279 ++ bt276.1).size : Int) - a1)) : Int).toNat, (t279 ++ bt276.1).extract ((wrap64 (((t279 ++ bt276.1).size : Int) - a1)) : Int).toNat (t279 ++ bt276.1).size, 0)) else (none)) else (none)) else (none))) else (if 0 ≤ (wrap64 ((bt276.1.size : Int) - a1)) then (if (wrap64 ((bt276.1.size : Int) - a1)) ≤ (bt276.1.size : Int) then (some (bt276.1.extract 0 ((wrap64 ((bt276.1.size : Int) - a1)) : Int).toNat, bt276.1.extract ((wrap64 ((bt276.1.size : Int) - a1)) : Int).toNat bt276.1.size, 0)) else (none)) else (none))))) = some (r1, r2, r3) := by rw [if_neg (show ¬ (false = true) by decide)] at H; first | exact H | (simp only [append_nothing] at H; exact H)
        clear H; have H := H1; clear H1; replace H := Option.bind_eq_some_iff.mp H; obtain ⟨⟨t276, t277⟩, A110, H⟩ := H; (try dsimp only at H); have A11 := Aside0.mk A110; clear A110; by_cases c12 : t272.toList = ([48] : List UInt8)
        · rw [if_pos c12] at H
          have c12b0 : (t272.toList == ([48] : List UInt8)) = true := beq_iff_eq.mpr c12; have c12b1 : (t272.toList != ([48] : List UInt8)) = false := bne_eq_false_iff_eq.mpr c12; clear c12; by_cases c13 : 0 ≤ a1
          · rw [if_pos c13] at H
            have c13b0 : decide (0 ≤ a1) = true := decide_eq_true c13; clear c13; replace H := Option.bind_eq_some_iff.mp H; obtain ⟨t278, A140, H⟩ := H; (try dsimp only at H); have A14 := Aside0.mk A140; clear A140; by_cases c15 : t278.size ≤ 9223372036854775807
            · rw [if_pos c15] at H
              have c15b0 := eq_true c15; have c15b1 : decide (t278.size ≤ 9223372036854775807) = true := decide_eq_true c15; (try have c15b2 : (9223372036854775807 < t278.size + 0) = False := eq_false (Nat.not_lt.2 c15)); (try have c15b3 := c15b2); (try simp only [ByteArray.size_append, size_lit, List.size_toArray, List.length_cons, List.length_nil, Nat.reduceAdd] at c15b3); obtain ⟨ji16, hji16⟩ : ∃ j_ : Int, (wrap64 ((t278.size : Int) - a1)) = j_ := ⟨_, rfl⟩; replace H : (if 0 ≤ (ji16) then (if (ji16) ≤ (t278.size : Int) then (some (t278.extract 0 ((ji16) : Int).toNat, t278.extract ((ji16) : Int).toNat t278.size, 0)) else (none)) else (none)) = some (r1, r2, r3) := by first | (rw [hji16] at H; exact H) | (simp only [hji16] at H ⊢; exact H)
              (try rw [hji16] at A11)
              (try rw [hji16] at A14)
              have hji16w : (IntKind.i64.wrap ((t278.size : Int) - a1)) = ji16 := (i64_w _).trans hji16; by_cases c17 : 0 ≤ (ji16)
              · rw [if_pos c17] at H
                have c17b0 := eq_true c17; have c17b1 : decide (0 ≤ (ji16)) = true := decide_eq_true c17; clear c17; by_cases c18 : (ji16) ≤ (t278.size : Int)
                · rw [if_pos c18] at H
                  have c18b0 := eq_true c18; have c18b1 : decide ((ji16) ≤ (t278.size : Int)) = true := decide_eq_true c18; have c19b0 := eq_true (of_decide_eq_true (by exact pz8) : 0 ≤ (ji16)); have c20b0 := eq_true (of_decide_eq_true (by exact pz8) : (ji16) ≤ (t278.size : Int)); simp only [Option.some.injEq, Prod.mk.injEq] at H; obtain ⟨rfl, rfl, rfl⟩ := H; have hcz21_0 : wc.cell? ⟨gb275, 0, none⟩ = some (.bool t271) := (blk_cell BK275.out 0).trans rfl; have hcz21_1 : wc.cell? ⟨gb275, 1, none⟩ = some (.string t272) := (blk_cell BK275.out 1).trans rfl; have hcz21_2 : wc.cell? ⟨gb275, 2, none⟩ = some (.int .i64 t273) := (blk_cell BK275.out 2).trans rfl; have hfz21_0 := blk_frozen BK275.out 0; have hfz21_1 := blk_frozen BK275.out 1; have hfz21_2 := blk_frozen BK275.out 2; go_wp2_with (first | (go_at_call 53; (with_reducible refine (fixed_row.calls kj4 t272 (wrap64 ((wrap64 ((t272.size : Int) + t273)) + a1)) t276 t277 _ A11.out).mono ?_); rintro e w22 ⟨rfl, hb⟩; have n0_ := Aside0.mk (blk_below (g := gb275) (o := .cells #[.bool t271, .string t272, .int .i64 t273] 46 (0, 0)) (by exact phCx9_3) hb); have n1_ := Aside0.mk (below_step (by exact phCx9_2) hb); clear BK275; clear HB; have BK275 := n0_; have HB := n1_; clear n0_ n1_; (try clear hb); (try clear hb2); (try clear hk); (try clear hi); have hcz23_0 : w22.cell? ⟨gb275, 0, none⟩ = some (.bool t271) := (blk_cell BK275.out 0).trans rfl; have hcz23_1 : w22.cell? ⟨gb275, 1, none⟩ = some (.string t272) := (blk_cell BK275.out 1).trans rfl; have hcz23_2 : w22.cell? ⟨gb275, 2, none⟩ = some (.int .i64 t273) := (blk_cell BK275.out 2).trans rfl; have hfz23_0 := blk_frozen BK275.out 0; have hfz23_1 := blk_frozen BK275.out 1; have hfz23_2 := blk_frozen BK275.out 2) | (go_at_call 54; (with_reducible refine (strings_Repeat.calls (⟨#[48]⟩ : ByteArray) (wrap64 ((wrap64 (a1 + 1)))) t278 _ A14.out).mono ?_); rintro e w24 ⟨rfl, hb⟩; have n0_ := Aside0.mk (blk_below (g := gb275) (o := .cells #[.bool t271, .string t272, .int .i64 t273] 46 (0, 0)) (by exact phCx9_3) hb); have n1_ := Aside0.mk (below_step (by exact phCx9_2) hb); clear BK275; clear HB; have BK275 := n0_; have HB := n1_; clear n0_ n1_; (try clear hb); (try clear hb2); (try clear hk); (try clear hi))); (repeat (go_quiet (fail); try go_wp2_with (fail))); go_ret3
                  exact ⟨by first | rfl | (simp [errW_none, errW_some] <;> rfl) | (simp only [append_nothing]; done) | (simp only [append_nothing]; rfl) | (simp only [← hji16]; first | rfl | (simp [errW_none, errW_some] <;> rfl)) | (simp [*, errW_none, errW_some] <;> rfl), by exact phCx9_2⟩
                rw [if_neg c18] at H; exact absurd H (by simp)
              rw [if_neg c17] at H; exact absurd H (by simp)
            rw [if_neg c15] at H; exact absurd H (by simp)
          rw [if_neg c13] at H; have c13b0 : decide (0 ≤ a1) = false := decide_eq_false c13; clear c13; obtain ⟨ji25, hji25⟩ : ∃ j_ : Int, (wrap64 (-a1)) = j_ := ⟨_, rfl⟩; replace H : (if 0 ≤ (ji25) then (if (ji25) ≤ 0 then (some ((⟨#[]⟩ : ByteArray).extract 0 ((ji25) : Int).toNat, (⟨#[]⟩ : ByteArray).extract ((ji25) : Int).toNat (⟨#[]⟩ : ByteArray).size, 0)) else (none)) else (none)) = some (r1, r2, r3) := by first | (rw [hji25] at H; exact H) | (simp only [hji25] at H ⊢; exact H)
          (try rw [hji25] at A11)
          have hji25w : (IntKind.i64.wrap (-a1)) = ji25 := (i64_w _).trans hji25; by_cases c26 : 0 ≤ (ji25)
          · rw [if_pos c26] at H
            have c26b0 := eq_true c26; have c26b1 : decide (0 ≤ (ji25)) = true := decide_eq_true c26; clear c26; by_cases c27 : (ji25) ≤ 0
            · rw [if_pos c27] at H
              have c27b0 := eq_true c27; have c27b1 : decide ((ji25) ≤ 0) = true := decide_eq_true c27; clear c27; have c28b0 := eq_true (of_decide_eq_true (by exact pz8) : 0 ≤ (ji25)); have c29b0 := eq_true (of_decide_eq_true (by exact pz8) : (ji25) ≤ 0); simp only [Option.some.injEq, Prod.mk.injEq] at H; obtain ⟨rfl, rfl, rfl⟩ := H; have hcz30_0 : wc.cell? ⟨gb275, 0, none⟩ = some (.bool t271) := (blk_cell BK275.out 0).trans rfl; have hcz30_1 : wc.cell? ⟨gb275, 1, none⟩ = some (.string t272) := (blk_cell BK275.out 1).trans rfl; have hcz30_2 : wc.cell? ⟨gb275, 2, none⟩ = some (.int .i64 t273) := (blk_cell BK275.out 2).trans rfl; have hfz30_0 := blk_frozen BK275.out 0; have hfz30_1 := blk_frozen BK275.out 1; have hfz30_2 := blk_frozen BK275.out 2; go_wp2_with (first | (go_at_call 53; (with_reducible refine (fixed_row.calls kj4 t272 (wrap64 ((wrap64 ((t272.size : Int) + t273)) + a1)) t276 t277 _ A11.out).mono ?_); rintro e w31 ⟨rfl, hb⟩; have n0_ := Aside0.mk (blk_below (g := gb275) (o := .cells #[.bool t271, .string t272, .int .i64 t273] 46 (0, 0)) (by exact phCx9_3) hb); have n1_ := Aside0.mk (below_step (by exact phCx9_2) hb); clear BK275; clear HB; have BK275 := n0_; have HB := n1_; clear n0_ n1_; (try clear hb); (try clear hb2); (try clear hk); (try clear hi); have hcz32_0 : w31.cell? ⟨gb275, 0, none⟩ = some (.bool t271) := (blk_cell BK275.out 0).trans rfl; have hcz32_1 : w31.cell? ⟨gb275, 1, none⟩ = some (.string t272) := (blk_cell BK275.out 1).trans rfl; have hcz32_2 : w31.cell? ⟨gb275, 2, none⟩ = some (.int .i64 t273) := (blk_cell BK275.out 2).trans rfl; have hfz32_0 := blk_frozen BK275.out 0; have hfz32_1 := blk_frozen BK275.out 1; have hfz32_2 := blk_frozen BK275.out 2)); (repeat (go_quiet (fail); try go_wp2_with (fail))); go_ret3
              exact ⟨by first | rfl | (simp [errW_none, errW_some] <;> rfl) | (simp only [append_nothing]; done) | (simp only [append_nothing]; rfl) | (simp only [← hji25]; first | rfl | (simp [errW_none, errW_some] <;> rfl)) | (simp [*, errW_none, errW_some] <;> rfl), by exact phCx9_2⟩
            rw [if_neg c27] at H; exact absurd H (by simp)
          rw [if_neg c26] at H; exact absurd H (by simp)
        rw [if_neg c12] at H; have c12b0 : (t272.toList == ([48] : List UInt8)) = false := beq_eq_false_iff_ne.mpr c12; have c12b1 : (t272.toList != ([48] : List UInt8)) = true := bne_iff_ne.mpr c12; by_cases c33 : (t276.size : Int) ≤ a1
        · rw [if_pos c33] at H
          have c33b0 : decide ((t276.size : Int) ≤ a1) = true := decide_eq_true c33; clear c33; replace H := Option.bind_eq_some_iff.mp H; obtain ⟨t279, A340, H⟩ := H; (try dsimp only at H); have A34 := Aside0.mk A340; clear A340; by_cases c35 : t279.size + t276.size ≤ 9223372036854775807
          · rw [if_pos c35] at H
            have c35b0 := eq_true c35; have c35b1 : decide (t279.size + t276.size ≤ 9223372036854775807) = true := decide_eq_true c35; (try have c35b2 : (9223372036854775807 < t279.size + t276.size) = False := eq_false (Nat.not_lt.2 c35)); (try have c35b3 := c35b2); (try simp only [ByteArray.size_append, size_lit, List.size_toArray, List.length_cons, List.length_nil, Nat.reduceAdd] at c35b3); obtain ⟨ji36, hji36⟩ : ∃ j_ : Int, (wrap64 (((t279 ++ t276).size : Int) - a1)) = j_ := ⟨_, rfl⟩; replace H : (if 0 ≤ (ji36) then (if (ji36) ≤ ((t279 ++ t276).size : Int) then (some ((t279 ++ t276).extract 0 ((ji36) : Int).toNat, (t279 ++ t276).extract ((ji36) : Int).toNat (t279 ++ t276).size, 0)) else (none)) else (none)) = some (r1, r2, r3) := by first | (rw [hji36] at H; exact H) | (simp only [hji36] at H ⊢; exact H)
            (try rw [hji36] at A11)
            (try rw [hji36] at A34)
            have hji36w : (IntKind.i64.wrap (((t279 ++ t276).size : Int) - a1)) = ji36 := (i64_w _).trans hji36; (try have hji36wz := hji36w); (try simp only [ByteArray.size_append, Int.natCast_add] at hji36wz); by_cases c37 : 0 ≤ (ji36)
            · rw [if_pos c37] at H
              have c37b0 := eq_true c37; have c37b1 : decide (0 ≤ (ji36)) = true := decide_eq_true c37; clear c37; by_cases c38 : (ji36) ≤ ((t279 ++ t276).size : Int)
              · rw [if_pos c38] at H
                have c38b0 := eq_true c38; have c38b1 : decide ((ji36) ≤ ((t279 ++ t276).size : Int)) = true := decide_eq_true c38; (try have c38b1z := c38b1); (try simp only [ByteArray.size_append, Int.natCast_add] at c38b1z); have c39b0 := eq_true (of_decide_eq_true (by exact pz8) : 0 ≤ (ji36)); have c40b0 := eq_true (of_decide_eq_true (by exact pz8) : (ji36) ≤ ((t279 ++ t276).size : Int)); (try have c40b0z := c40b0); (try simp only [ByteArray.size_append, Int.natCast_add] at c40b0z); simp only [Option.some.injEq, Prod.mk.injEq] at H; obtain ⟨rfl, rfl, rfl⟩ := H; have hcz41_0 : wc.cell? ⟨gb275, 0, none⟩ = some (.bool t271) := (blk_cell BK275.out 0).trans rfl; have hcz41_1 : wc.cell? ⟨gb275, 1, none⟩ = some (.string t272) := (blk_cell BK275.out 1).trans rfl; have hcz41_2 : wc.cell? ⟨gb275, 2, none⟩ = some (.int .i64 t273) := (blk_cell BK275.out 2).trans rfl; have hfz41_0 := blk_frozen BK275.out 0; have hfz41_1 := blk_frozen BK275.out 1; have hfz41_2 := blk_frozen BK275.out 2; go_wp2_with (first | (go_at_call 53; (with_reducible refine (fixed_row.calls kj4 t272 (wrap64 ((wrap64 ((t272.size : Int) + t273)) + a1)) t276 t277 _ A11.out).mono ?_); rintro e w42 ⟨rfl, hb⟩; have n0_ := Aside0.mk (blk_below (g := gb275) (o := .cells #[.bool t271, .string t272, .int .i64 t273] 46 (0, 0)) (by exact phCx9_3) hb); have n1_ := Aside0.mk (below_step (by exact phCx9_2) hb); clear BK275; clear HB; have BK275 := n0_; have HB := n1_; clear n0_ n1_; (try clear hb); (try clear hb2); (try clear hk); (try clear hi); have hcz43_0 : w42.cell? ⟨gb275, 0, none⟩ = some (.bool t271) := (blk_cell BK275.out 0).trans rfl; have hcz43_1 : w42.cell? ⟨gb275, 1, none⟩ = some (.string t272) := (blk_cell BK275.out 1).trans rfl; have hcz43_2 : w42.cell? ⟨gb275, 2, none⟩ = some (.int .i64 t273) := (blk_cell BK275.out 2).trans rfl; have hfz43_0 := blk_frozen BK275.out 0; have hfz43_1 := blk_frozen BK275.out 1; have hfz43_2 := blk_frozen BK275.out 2) | (go_at_call 54; (with_reducible refine (strings_Repeat.calls (⟨#[48]⟩ : ByteArray) (wrap64 ((wrap64 (a1 + 1)) - (t276.size : Int))) t279 _ A34.out).mono ?_); rintro e w44 ⟨rfl, hb⟩; have n0_ := Aside0.mk (blk_below (g := gb275) (o := .cells #[.bool t271, .string t272, .int .i64 t273] 46 (0, 0)) (by exact phCx9_3) hb); have n1_ := Aside0.mk (below_step (by exact phCx9_2) hb); clear BK275; clear HB; have BK275 := n0_; have HB := n1_; clear n0_ n1_; (try clear hb); (try clear hb2); (try clear hk); (try clear hi))); (repeat (go_quiet (fail); try go_wp2_with (fail))); go_ret3
                exact ⟨by first | rfl | (simp [errW_none, errW_some] <;> rfl) | (simp only [append_nothing]; done) | (simp only [append_nothing]; rfl) | (simp only [← hji36]; first | rfl | (simp [errW_none, errW_some] <;> rfl)) | (simp [*, errW_none, errW_some] <;> rfl), by exact phCx9_2⟩
              rw [if_neg c38] at H; exact absurd H (by simp)
            rw [if_neg c37] at H; exact absurd H (by simp)
          rw [if_neg c35] at H; exact absurd H (by simp)
        rw [if_neg c33] at H; have c33b0 : decide ((t276.size : Int) ≤ a1) = false := decide_eq_false c33; clear c33; obtain ⟨ji45, hji45⟩ : ∃ j_ : Int, (wrap64 ((t276.size : Int) - a1)) = j_ := ⟨_, rfl⟩; replace H : (if 0 ≤ (ji45) then (if (ji45) ≤ (t276.size : Int) then (some (t276.extract 0 ((ji45) : Int).toNat, t276.extract ((ji45) : Int).toNat t276.size, 0)) else (none)) else (none)) = some (r1, r2, r3) := by first | (rw [hji45] at H; exact H) | (simp only [hji45] at H ⊢; exact H)
        (try rw [hji45] at A11)
        have hji45w : (IntKind.i64.wrap ((t276.size : Int) - a1)) = ji45 := (i64_w _).trans hji45; by_cases c46 : 0 ≤ (ji45)
        · rw [if_pos c46] at H
          have c46b0 := eq_true c46; have c46b1 : decide (0 ≤ (ji45)) = true := decide_eq_true c46; clear c46; by_cases c47 : (ji45) ≤ (t276.size : Int)
          · rw [if_pos c47] at H
            have c47b0 := eq_true c47; have c47b1 : decide ((ji45) ≤ (t276.size : Int)) = true := decide_eq_true c47; clear c47; have c48b0 := eq_true (of_decide_eq_true (by exact pz8) : 0 ≤ (ji45)); have c49b0 := eq_true (of_decide_eq_true (by exact pz8) : (ji45) ≤ (t276.size : Int)); simp only [Option.some.injEq, Prod.mk.injEq] at H; obtain ⟨rfl, rfl, rfl⟩ := H; have hcz50_0 : wc.cell? ⟨gb275, 0, none⟩ = some (.bool t271) := (blk_cell BK275.out 0).trans rfl; have hcz50_1 : wc.cell? ⟨gb275, 1, none⟩ = some (.string t272) := (blk_cell BK275.out 1).trans rfl; have hcz50_2 : wc.cell? ⟨gb275, 2, none⟩ = some (.int .i64 t273) := (blk_cell BK275.out 2).trans rfl; have hfz50_0 := blk_frozen BK275.out 0; have hfz50_1 := blk_frozen BK275.out 1; have hfz50_2 := blk_frozen BK275.out 2; go_wp2_with (first | (go_at_call 53; (with_reducible refine (fixed_row.calls kj4 t272 (wrap64 ((wrap64 ((t272.size : Int) + t273)) + a1)) t276 t277 _ A11.out).mono ?_); rintro e w51 ⟨rfl, hb⟩; have n0_ := Aside0.mk (blk_below (g := gb275) (o := .cells #[.bool t271, .string t272, .int .i64 t273] 46 (0, 0)) (by exact phCx9_3) hb); have n1_ := Aside0.mk (below_step (by exact phCx9_2) hb); clear BK275; clear HB; have BK275 := n0_; have HB := n1_; clear n0_ n1_; (try clear hb); (try clear hb2); (try clear hk); (try clear hi); have hcz52_0 : w51.cell? ⟨gb275, 0, none⟩ = some (.bool t271) := (blk_cell BK275.out 0).trans rfl; have hcz52_1 : w51.cell? ⟨gb275, 1, none⟩ = some (.string t272) := (blk_cell BK275.out 1).trans rfl; have hcz52_2 : w51.cell? ⟨gb275, 2, none⟩ = some (.int .i64 t273) := (blk_cell BK275.out 2).trans rfl; have hfz52_0 := blk_frozen BK275.out 0; have hfz52_1 := blk_frozen BK275.out 1; have hfz52_2 := blk_frozen BK275.out 2)); (repeat (go_quiet (fail); try go_wp2_with (fail))); go_ret3
            exact ⟨by first | rfl | (simp [errW_none, errW_some] <;> rfl) | (simp only [append_nothing]; done) | (simp only [append_nothing]; rfl) | (simp only [← hji45]; first | rfl | (simp [errW_none, errW_some] <;> rfl)) | (simp [*, errW_none, errW_some] <;> rfl), by exact phCx9_2⟩
          rw [if_neg c47] at H; exact absurd H (by simp)
        rw [if_neg c46] at H; exact absurd H (by simp)
  rw [if_neg c4] at H; have c4b0 : (t274 == 0) = false := beq_eq_false_iff_ne.mpr c4; have c4b1 : (t274 != 0) = true := bne_iff_ne.mpr c4; simp only [Option.some.injEq, Prod.mk.injEq] at H; obtain ⟨rfl, rfl, rfl⟩ := H; go_enter Tryz.func20, Tryz.ntmps20; go_wp2_with (first | (go_at_call 26; (with_reducible refine (fixed_All.calls k a0 t271 t272 t273 t274 _ A3.out).mono ?_); rintro e w53 ⟨rfl, hb⟩; have n0_ := Aside0.mk (below_step (by exact pz1) hb); clear HB; have HB := n0_; clear n0_; (try clear hb); (try clear hb2); (try clear hk); (try clear hi)) | ((with_reducible refine gate_dst (N := 7) rfl ?_); refine box_event ?hg (N := 7) ?hd (cs := #[.bool false, .string (⟨#[]⟩ : ByteArray), .int .i64 0]) (t := 46) ?hr ?_; (case hd => rfl); (case hg => rfl); (case hr => first | (go_simp; done) | (go_simp; rfl)); intro gb275 hg w54 hbox hb; have n0_ := Aside0.mk (below_step (by exact pz1) hb); have n1_ := Aside0.mk (hbox); have n2_ := Aside0.mk ((by rw [hg]; exact (below_size (by exact pz1)) : w.heap.size ≤ gb275)); have n3_ := Aside0.mk ((by rw [hg]; exact (below_size (by exact pz1)) : w.heap.size ≤ gb275)); clear HB; have HB := n0_; have BK275 := n1_; have GW275 := n2_; have GE275 := n3_; clear n0_ n1_ n2_ n3_; clear hb hbox hg; have hcz55_0 : w54.cell? ⟨gb275, 0, none⟩ = some (.bool false) := (blk_cell BK275.out 0).trans rfl; have hcz55_1 : w54.cell? ⟨gb275, 1, none⟩ = some (.string (⟨#[]⟩ : ByteArray)) := (blk_cell BK275.out 1).trans rfl; have hcz55_2 : w54.cell? ⟨gb275, 2, none⟩ = some (.int .i64 0) := (blk_cell BK275.out 2).trans rfl; have hfz55_0 := blk_frozen BK275.out 0; have hfz55_1 := blk_frozen BK275.out 1; have hfz55_2 := blk_frozen BK275.out 2)); (repeat (go_quiet (fail); try go_wp2_with (fail))); go_ret3
  exact ⟨by exact pz2, by exact phCx9_2⟩

/-! ### point_places: function 45 -/
def point_places.f (k : Nat) (a0 : Int) (a1 : Int) (a2 : Bool) : Option (ByteArray) := (fixed_Places.f k a0 a1).bind fun bt280 => (if bt280.2.1.toList = ([] : List UInt8) then (if a2 = true then (if bt280.1.size + 1 ≤ 9223372036854775807 then (if (bt280.1 ++ (⟨#[46]⟩ : ByteArray)).size + bt280.2.1.size ≤ 9223372036854775807 then (some ((bt280.1 ++ (⟨#[46]⟩ : ByteArray)) ++ bt280.2.1)) else (none)) else (none)) else (some bt280.1)) else (if bt280.1.size + 1 ≤ 9223372036854775807 then (if (bt280.1 ++ (⟨#[46]⟩ : ByteArray)).size + bt280.2.1.size ≤ 9223372036854775807 then (some ((bt280.1 ++ (⟨#[46]⟩ : ByteArray)) ++ bt280.2.1)) else (none)) else (none)))
theorem point_places.mono : ∀ a0 a1 a2 k, LeO (point_places.f k a0 a1 a2) (point_places.f (k + 1) a0 a1 a2) := by
  intro a0 a1 a2 k; unfold point_places.f; repeat' first
      | (with_reducible exact fixed_Places.mono _ _ _)
      | (with_reducible exact LeO.refl _)
      | (with_reducible exact LeO.none _)
      | (with_reducible refine LeO.ite ?_ ?_)
      | (with_reducible refine LeO.bind ?_ (fun _ => ?_))
      | exact fixed_Places.mono _ _ _
      | exact LeO.none _
      | refine LeO.ite ?_ ?_
      | refine LeO.bind ?_ (fun _ => ?_)
set_option maxHeartbeats 8000000 in
set_option maxRecDepth 100000 in
theorem point_places.calls (k : Nat) (a0 : Int) (a1 : Int) (a2 : Bool) (r : ByteArray) (w : World) (h : point_places.f k a0 a1 a2 = some r) (HG : Aside0 (GW w) := by exact pz5) :
    Calls Tryz.prog 45 #[.int .u64 a0, .int .i64 a1, .bool a2] w fun e w' => e = .returned (.string r) ∧ Below w.heap.size w w' := by
  have HB := Aside0.mk (Below.refl w.heap.size w); have H : ((fixed_Places.f k a0 a1).bind fun bt280 => (if bt280.2.1.toList = ([] : List UInt8) then (if a2 = true then (if bt280.1.size + 1 ≤ 9223372036854775807 then (if (bt280.1 ++ (⟨#[46]⟩ : ByteArray)).size + bt280.2.1.size ≤ 9223372036854775807 then (some ((bt280.1 ++ (⟨#[46]⟩ : ByteArray)) ++ bt280.2.1)) else (none)) else (none)) else (some bt280.1)) else (if bt280.1.size + 1 ≤ 9223372036854775807 then (if (bt280.1 ++ (⟨#[46]⟩ : ByteArray)).size + bt280.2.1.size ≤ 9223372036854775807 then (some ((bt280.1 ++ (⟨#[46]⟩ : ByteArray)) ++ bt280.2.1)) else (none)) else (none)))) = some r := h; clear h; replace H := Option.bind_eq_some_iff.mp H; obtain ⟨⟨t280, t281, t282⟩, A40, H⟩ := H; (try dsimp only at H); have A4 := Aside0.mk A40; clear A40; by_cases c5 : t281.toList = ([] : List UInt8)
  · rw [if_pos c5] at H
    have c5b0 : (t281.toList == ([] : List UInt8)) = true := beq_iff_eq.mpr c5; have c5b1 : (t281.toList != ([] : List UInt8)) = false := bne_eq_false_iff_eq.mpr c5; clear c5; by_cases c6 : a2 = true
    · subst c6
      have H1 : (if t280.size + 1 ≤ 9223372036854775807 then (if (t280 ++ (⟨#[46]⟩ : ByteArray)).size + t281.size ≤ 9223372036854775807 then (some ((t280 ++ (⟨#[46]⟩ : ByteArray)) ++ t281)) else (none)) else (none)) = some r := by rw [if_pos rfl] at H; exact H
      clear H; have H := H1; clear H1; by_cases c7 : t280.size + 1 ≤ 9223372036854775807
      · rw [if_pos c7] at H
        have c7b0 := eq_true c7; have c7b1 : decide (t280.size + 1 ≤ 9223372036854775807) = true := decide_eq_true c7; (try have c7b2 : (9223372036854775807 < t280.size + 1) = False := eq_false (Nat.not_lt.2 c7)); (try have c7b3 := c7b2); (try simp only [ByteArray.size_append, size_lit, List.size_toArray, List.length_cons, List.length_nil, Nat.reduceAdd] at c7b3); by_cases c8 : (t280 ++ (⟨#[46]⟩ : ByteArray)).size + t281.size ≤ 9223372036854775807
        · rw [if_pos c8] at H
          have c8b0 := eq_true c8; have c8b1 : decide ((t280 ++ (⟨#[46]⟩ : ByteArray)).size + t281.size ≤ 9223372036854775807) = true := decide_eq_true c8; (try have c8b2 : (9223372036854775807 < (t280 ++ (⟨#[46]⟩ : ByteArray)).size + t281.size) = False := eq_false (Nat.not_lt.2 c8)); (try have c8b3 := c8b2); (try simp only [ByteArray.size_append, size_lit, List.size_toArray, List.length_cons, List.length_nil, Nat.reduceAdd] at c8b3); obtain rfl := Option.some.inj H; go_enter Tryz.func45, Tryz.ntmps45; go_wp2_with (first | ((with_reducible refine gate_callee (f := 20) rfl ?_); refine goesL_ (some 13) rfl rfl Tryz.func20 (by kernel_rfl) rfl #[.int .u64 a0, .int .i64 a1] rfl (by exact pz4) ?_; (with_reducible refine (fixed_Places.calls k a0 a1 t280 t281 t282 _ A4.out).mono ?_); rintro e w9 ⟨rfl, hb⟩; refine ⟨_, rfl, ?_⟩; have n0_ := Aside0.mk (below_step (by exact pz1) hb); clear HB; have HB := n0_; clear n0_; (try clear hb); (try clear hb2); (try clear hk); (try clear hi))); go_ret; exact ⟨by exact pz2, by exact pz1⟩
        rw [if_neg c8] at H; exact absurd H (by simp)
      rw [if_neg c7] at H; exact absurd H (by simp)
    replace c6 := Bool.eq_false_iff.mpr c6; subst c6; have H1 : (some t280) = some r := by rw [if_neg (show ¬ (false = true) by decide)] at H; exact H
    clear H; have H := H1; clear H1; obtain rfl := Option.some.inj H; go_enter Tryz.func45, Tryz.ntmps45; go_wp2_with (first | ((with_reducible refine gate_callee (f := 20) rfl ?_); refine goesL_ (some 13) rfl rfl Tryz.func20 (by kernel_rfl) rfl #[.int .u64 a0, .int .i64 a1] rfl (by exact pz4) ?_; (with_reducible refine (fixed_Places.calls k a0 a1 t280 t281 t282 _ A4.out).mono ?_); rintro e w10 ⟨rfl, hb⟩; refine ⟨_, rfl, ?_⟩; have n0_ := Aside0.mk (below_step (by exact pz1) hb); clear HB; have HB := n0_; clear n0_; (try clear hb); (try clear hb2); (try clear hk); (try clear hi))); go_ret; exact ⟨by exact pz2, by exact pz1⟩
  rw [if_neg c5] at H; have c5b0 : (t281.toList == ([] : List UInt8)) = false := beq_eq_false_iff_ne.mpr c5; have c5b1 : (t281.toList != ([] : List UInt8)) = true := bne_iff_ne.mpr c5; by_cases c11 : t280.size + 1 ≤ 9223372036854775807
  · rw [if_pos c11] at H
    have c11b0 := eq_true c11; have c11b1 : decide (t280.size + 1 ≤ 9223372036854775807) = true := decide_eq_true c11; (try have c11b2 : (9223372036854775807 < t280.size + 1) = False := eq_false (Nat.not_lt.2 c11)); (try have c11b3 := c11b2); (try simp only [ByteArray.size_append, size_lit, List.size_toArray, List.length_cons, List.length_nil, Nat.reduceAdd] at c11b3); by_cases c12 : (t280 ++ (⟨#[46]⟩ : ByteArray)).size + t281.size ≤ 9223372036854775807
    · rw [if_pos c12] at H
      have c12b0 := eq_true c12; have c12b1 : decide ((t280 ++ (⟨#[46]⟩ : ByteArray)).size + t281.size ≤ 9223372036854775807) = true := decide_eq_true c12; (try have c12b2 : (9223372036854775807 < (t280 ++ (⟨#[46]⟩ : ByteArray)).size + t281.size) = False := eq_false (Nat.not_lt.2 c12)); (try have c12b3 := c12b2); (try simp only [ByteArray.size_append, size_lit, List.size_toArray, List.length_cons, List.length_nil, Nat.reduceAdd] at c12b3); obtain rfl := Option.some.inj H; go_enter Tryz.func45, Tryz.ntmps45; go_wp2_with (first | ((with_reducible refine gate_callee (f := 20) rfl ?_); refine goesL_ (some 13) rfl rfl Tryz.func20 (by kernel_rfl) rfl #[.int .u64 a0, .int .i64 a1] rfl (by exact pz4) ?_; (with_reducible refine (fixed_Places.calls k a0 a1 t280 t281 t282 _ A4.out).mono ?_); rintro e w13 ⟨rfl, hb⟩; refine ⟨_, rfl, ?_⟩; have n0_ := Aside0.mk (below_step (by exact pz1) hb); clear HB; have HB := n0_; clear n0_; (try clear hb); (try clear hb2); (try clear hk); (try clear hi))); go_ret; exact ⟨by exact pz2, by exact pz1⟩
    rw [if_neg c12] at H; exact absurd H (by simp)
  rw [if_neg c11] at H; exact absurd H (by simp)

/-! ### point_tail: function 86 -/
def point_tail.f (a0 : Int) (a1 : Int) : Option ByteArray := if -4611686018427387904 ≤ a0 ∧ a0 ≤ 4611686018427387904 ∧ (a1 = 101 ∨ a1 = 69) then some (⟨#[UInt8.ofNat a1.toNat]⟩ ++ (if a0 < 0 then (if -a0 < 10 then ⟨#[45]⟩ ++ ⟨#[48]⟩ else ⟨#[45]⟩) else (if a0 < 10 then ⟨#[43]⟩ ++ ⟨#[48]⟩ else ⟨#[43]⟩)) ++ ⟨(Lib.itoa (if a0 < 0 then -a0 else a0)).toArray⟩) else none
theorem point_tail.w1 {P : Prop} (h : P := by
  go_enter Tryz.func86, Tryz.ntmps86; go_wp2_with (go_at_call 133; refine hi.mono ?_; rintro e w' ⟨rfl, hb⟩); go_ret; exact ⟨rfl, hb⟩) : P := h
set_option maxHeartbeats 2000000 in
set_option maxRecDepth 100000 in
theorem point_tail.calls (a0 : Int) (a1 : Int) (r : ByteArray) (w : World) (h : point_tail.f a0 a1 = some r) (HG : Aside0 (GW w) := by exact pz5) :
    Calls Tryz.prog 86 #[.int .i64 a0, .int .u8 a1] w fun e w' => e = .returned (.string r) ∧ Below w.heap.size w w' := by
  unfold point_tail.f at h; split at h
  · rename_i h0
    cases h
    obtain ⟨h1, h2, h3⟩ := h0; have hitoa : ∀ x : Int, 0 ≤ x → x ≤ 4611686018427387904 → Calls Tryz.prog 133 #[.int .i64 x] w fun e w' => e = .returned (.string ⟨(Lib.itoa x).toArray⟩) ∧ Below w.heap.size w w' := fun x hx0 hx1 => by
      refine (Tryz.strconv_Itoa x (by omega) (by omega) w HG.out.1).mono ?_; rintro e w' ⟨he, k, os, rfl⟩; exact ⟨he, below_growN w k os⟩
    have hlen : ∀ x : Int, 0 ≤ x → x ≤ 4611686018427387904 → (Lib.itoa x).length ≤ 40 := fun x hx0 hx1 => Nat.le_trans (Lib.itoa_length_le x (by omega) (by omega)) (by omega)
    have hconv : ∀ u : World, (convert 5 9 (.int .u8 a1)).run Tryz.prog u = .ok (.string ⟨#[UInt8.ofNat a1.toNat]⟩) u := fun u => by
      rcases h3 with rfl | rfl <;> kernel_rfl
    by_cases c1 : a0 < 0
    · have c1b : decide (a0 < 0) = true := decide_eq_true c1
      have hi := hitoa (-a0) (by omega) (by omega); have hl := hlen (-a0) (by omega) (by omega); have hneg : wrap64 (-a0) = -a0 := by unfold wrap64; omega
      by_cases c2 : -a0 < 10
      · have c2b : decide (-a0 < 10) = true := decide_eq_true c2
        simp only [if_pos c1, if_pos c2]; exact point_tail.w1
      have c2b : decide (-a0 < 10) = false := decide_eq_false c2; simp only [if_pos c1, if_neg c2]; exact point_tail.w1
    have c1b : decide (a0 < 0) = false := decide_eq_false c1; have hi := hitoa a0 (by omega) (by omega); have hl := hlen a0 (by omega) (by omega); by_cases c2 : a0 < 10
    · have c2b : decide (a0 < 10) = true := decide_eq_true c2
      simp only [if_neg c1, if_pos c2]; exact point_tail.w1
    have c2b : decide (a0 < 10) = false := decide_eq_false c2; simp only [if_neg c1, if_neg c2]; exact point_tail.w1
  cases h

end Go.Proofs.YtgbjojokjekmhaaGreatDoor.PXC
