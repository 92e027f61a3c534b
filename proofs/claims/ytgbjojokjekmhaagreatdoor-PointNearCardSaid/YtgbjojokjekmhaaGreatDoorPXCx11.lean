/- The machine's side of a law, printed by a program of this session out of the translation; conditions: none. -/
import Derived.Test.YtgbjojokjekmhaaGreatDoorPXCx0
import Derived.Test.YtgbjojokjekmhaaGreatDoorPXCx1
import Derived.Test.YtgbjojokjekmhaaGreatDoorPXCx9
import Derived.Test.YtgbjojokjekmhaaGreatDoorPXCx10
namespace Go.Proofs.YtgbjojokjekmhaaGreatDoor.PXC
open Go.Proofs.YtgbjojokjekmhaaGreatDoor
open Go.RowKit Go.Proofs.YtgbjojokjekmhaaGreatDoorW.PrintWords Go.Proofs.YtgbjojokjekmhaaGreatDoorW.PrintLast Go.Proofs.YtgbjojokjekmhaaGreatDoorW.PrintMore
attribute [local go_sem] max2_int min2_int max_two min_two max_three min_three max_four min_four   -- for this text's walks alone
set_option linter.unusedVariables false
set_option linter.unusedSimpArgs false

theorem phCx11_5 {P : Prop} (h : P := by first | rfl | (simp [errW_none, errW_some] <;> rfl) | (simp only [append_nothing]; done) | (simp only [append_nothing]; rfl) | (simp only [← hji28]; first | rfl | (simp [errW_none, errW_some] <;> rfl)) | (simp [*, errW_none, errW_some] <;> rfl)) : P := h
/-! ### point_general: function 47 -/
mutual
def point_general.j0 : Nat → Int → Int → Int → Bool → Option (ByteArray)
  | 0, _, _, _, _ => none
  | k + 1, x0, x1, x2, x3 => (fixed_Figures.f k x0 x1).bind fun bt291 => (if bt291.2.1 ≥ (-4) then (point_general.j1 k x2 x3 bt291.1 bt291.2.1 (⟨#[]⟩ : ByteArray) (decide (bt291.2.1 < x1))) else (point_general.j1 k x2 x3 bt291.1 bt291.2.1 (⟨#[]⟩ : ByteArray) false))
def point_general.j1 : Nat → Int → Bool → ByteArray → Int → ByteArray → Bool → Option (ByteArray)
  | 0, _, _, _, _, _, _ => none
  | k + 1, x2, x3, x9, x10, x13, x29 => if x29 = true then (if x10 < 0 then ((strings_Repeat.f (⟨#[48]⟩ : ByteArray) (wrap64 ((wrap64 (-x10)) - 1))).bind fun t294 => (if 2 + t294.size ≤ 9223372036854775807 then (if ((⟨#[48, 46]⟩ : ByteArray) ++ t294).size + x9.size ≤ 9223372036854775807 then (if x3 = true then (if (((⟨#[48, 46]⟩ : ByteArray) ++ t294) ++ x9).size + x13.size ≤ 9223372036854775807 then (some ((((⟨#[48, 46]⟩ : ByteArray) ++ t294) ++ x9) ++ x13)) else (none)) else ((point_strip.f (((⟨#[48, 46]⟩ : ByteArray) ++ t294) ++ x9)).bind fun t295 => (if t295.size + x13.size ≤ 9223372036854775807 then (some (t295 ++ x13)) else (none)))) else (none)) else (none))) else (if (wrap64 (x10 + 1)) = (x9.size : Int) then (if x9.size + 1 ≤ 9223372036854775807 then (if x3 = true then (if (x9 ++ (⟨#[46]⟩ : ByteArray)).size + x13.size ≤ 9223372036854775807 then (some ((x9 ++ (⟨#[46]⟩ : ByteArray)) ++ x13)) else (none)) else ((point_strip.f (x9 ++ (⟨#[46]⟩ : ByteArray))).bind fun t296 => (if t296.size + x13.size ≤ 9223372036854775807 then (some (t296 ++ x13)) else (none)))) else (none)) else (if 0 ≤ (wrap64 (x10 + 1)) then (if (wrap64 (x10 + 1)) ≤ (x9.size : Int) then (if (x9.extract 0 ((wrap64 (x10 + 1)) : Int).toNat).size + 1 ≤ 9223372036854775807 then (if ((x9.extract 0 ((wrap64 (x10 + 1)) : Int).toNat) ++ (⟨#[46]⟩ : ByteArray)).size + (x9.extract ((wrap64 (x10 + 1)) : Int).toNat x9.size).size ≤ 9223372036854775807 then (if x3 = true then (if (((x9.extract 0 ((wrap64 (x10 + 1)) : Int).toNat) ++ (⟨#[46]⟩ : ByteArray)) ++ (x9.extract ((wrap64 (x10 + 1)) : Int).toNat x9.size)).size + x13.size ≤ 9223372036854775807 then (some ((((x9.extract 0 ((wrap64 (x10 + 1)) : Int).toNat) ++ (⟨#[46]⟩ : ByteArray)) ++ (x9.extract ((wrap64 (x10 + 1)) : Int).toNat x9.size)) ++ x13)) else (none)) else ((point_strip.f (((x9.extract 0 ((wrap64 (x10 + 1)) : Int).toNat) ++ (⟨#[46]⟩ : ByteArray)) ++ (x9.extract ((wrap64 (x10 + 1)) : Int).toNat x9.size))).bind fun t297 => (if t297.size + x13.size ≤ 9223372036854775807 then (some (t297 ++ x13)) else (none)))) else (none)) else (none)) else (none)) else (none)))) else (if 0 ≤ 1 then (if 1 ≤ (x9.size : Int) then (if (x9.extract 0 1).size + 1 ≤ 9223372036854775807 then (if ((x9.extract 0 1) ++ (⟨#[46]⟩ : ByteArray)).size + (x9.extract 1 x9.size).size ≤ 9223372036854775807 then ((point_tail.f x10 x2).bind fun t298 => (if x3 = true then (if (((x9.extract 0 1) ++ (⟨#[46]⟩ : ByteArray)) ++ (x9.extract 1 x9.size)).size + t298.size ≤ 9223372036854775807 then (some ((((x9.extract 0 1) ++ (⟨#[46]⟩ : ByteArray)) ++ (x9.extract 1 x9.size)) ++ t298)) else (none)) else ((point_strip.f (((x9.extract 0 1) ++ (⟨#[46]⟩ : ByteArray)) ++ (x9.extract 1 x9.size))).bind fun t299 => (if t299.size + t298.size ≤ 9223372036854775807 then (some (t299 ++ t298)) else (none))))) else (none)) else (none)) else (none)) else (none))
end
def point_general.f (k : Nat) (a0 : Int) (a1 : Int) (a2 : Int) (a3 : Bool) : Option (ByteArray) := if a1 = 0 then (point_general.j0 k a0 1 a2 a3) else (point_general.j0 k a0 a1 a2 a3)
def point_general.T6 : Bool × List (List Nat × List Nat) := (true, [([], []), ([], []), ([1], [1]), ([0, 2], [0, 2]), ([3], [3]), ([], []), ([], []), ([6], [6]), ([5, 7], [5, 7]), ([4, 8], [4, 8]), ([9, 0, 1, 2, 3, 4, 5, 6, 7, 8, 9], [9])])
def point_general.B6 : List Nat := [0, 0, 2, 7, 15, 0, 0, 64, 224, 511, 1023]
theorem point_general.tab6 : rtab .any (opsOf Tryz.f47 6) = point_general.T6 := by kernel_rfl
theorem point_general.bits6 : waitsOk point_general.T6.2 point_general.B6 = true := by kernel_rfl
def point_general.T11 : Bool × List (List Nat × List Nat) := (true, [([], []), ([0], [0]), ([1], [1]), ([], []), ([3], [3]), ([2, 4], [2, 4]), ([], []), ([], []), ([6, 7], [6, 7]), ([5, 8, 0, 1, 2, 3, 4, 5], [5]), ([8, 9, 0, 1, 2, 3, 4, 5, 6, 7, 8, 9], [8])])
def point_general.B11 : List Nat := [0, 1, 3, 0, 8, 31, 0, 0, 192, 511, 1023]
theorem point_general.tab11 : rtab .any (opsOf Tryz.f47 11) = point_general.T11 := by kernel_rfl
theorem point_general.bits11 : waitsOk point_general.T11.2 point_general.B11 = true := by kernel_rfl
theorem point_general.w1 {P : Prop} (h : P := by
  go_wp2_with (first | ((with_reducible refine gate_callee (f := 54) rfl ?_); refine goesL_ (some 46) rfl rfl Tryz.func54 (by kernel_rfl) rfl #[.string (⟨#[48]⟩ : ByteArray), .int .i64 (wrap64 ((wrap64 (-t292)) - 1))] rfl (by exact pz4) ?_; (with_reducible refine (strings_Repeat.calls (⟨#[48]⟩ : ByteArray) (wrap64 ((wrap64 (-t292)) - 1)) t294 _ A13.out).mono ?_); rintro e w18 ⟨rfl, hb⟩; refine ⟨_, rfl, ?_⟩; have n0_ := Aside0.mk (below_step (by exact pz1) hb); clear HB; have HB := n0_; clear n0_; (try clear hb); (try clear hb2); (try clear hk); (try clear hi)) | ((with_reducible refine gate_callee (f := 87) rfl ?_); refine goesL_ (some 72) rfl rfl Tryz.func87 (by kernel_rfl) rfl #[.string (t291 ++ (⟨#[46]⟩ : ByteArray))] rfl (by exact pz4) ?_; (with_reducible refine (point_strip.calls (t291 ++ (⟨#[46]⟩ : ByteArray)) t296 _ A26.out).mono ?_); rintro e w' ⟨rfl, ⟨nd, rfl⟩⟩; refine ⟨_, rfl, ?_⟩)); go_ret; exact ⟨by exact pz2, by exact pz1⟩) : P := h
set_option maxHeartbeats 8000000 in
set_option maxRecDepth 100000 in
theorem point_general.calls (k : Nat) (a0 : Int) (a1 : Int) (a2 : Int) (a3 : Bool) (r : ByteArray) (w : World) (h : point_general.f k a0 a1 a2 a3 = some r) (HG : Aside0 (GW w) := by first | (with_reducible exact HG) | exact ⟨GW.below HG.out (by repeat (first | (with_reducible first | exact HB.out | apply below_alloc | apply pw_below_drewN | apply below_drew1) | (with_reducible refine below_set ?_ (Aside0.out (by assumption))) | exact HB.out | exact Below.refl _ _))⟩ | exact ⟨GW.drewN HG.out _⟩ | exact ⟨GW.drew HG.out⟩ | exact ⟨GW.drewN (GW.drewN HG.out _) _⟩ | exact ⟨GW.drewN (GW.drew HG.out) _⟩) :
    Calls Tryz.prog 47 #[.int .u64 a0, .int .i64 a1, .int .u8 a2, .bool a3] w fun e w' => e = .returned (.string r) ∧ Below w.heap.size w w' := by
  have HB := Aside0.mk (Below.refl w.heap.size w); have H := h; clear h; unfold point_general.f at H; have HC5 := Aside0.mk H; clear H; go_enter Tryz.func47, Tryz.ntmps47; go_upto_if 15 with (fail)
  go_cut [1] (fun v1 wc => ∃ (kq : Nat) (x1_4 : Int), v1 = .int .i64 x1_4 ∧ Aside0 (point_general.j0 kq a0 x1_4 a2 a3 = some r) ∧ Aside0 (kq ≤ k) ∧ Aside0 (Below w.heap.size w wc))
  case first =>
    have H := HC5.out; clear HC5; by_cases c6 : a1 = 0
    · rw [if_pos c6] at H
      have c6b0 := beq_iff_eq.mpr c6; have c6b1 := bne_eq_false_iff_eq.mpr c6; clear c6; (first | rw [c6b0] | (simp only [i64_w, i32_w]; rw [c6b0]) | skip)
      have H' := Aside0.mk H; clear H; go_wp2; go_meet
      case rel => exact ⟨_, (1), (by first | rfl | (simp; done) | (simp [*]; done)), H', ⟨by first | omega | exact Nat.le_refl _⟩, ⟨by exact pz1⟩⟩
    rw [if_neg c6] at H; have c6b0 := beq_eq_false_iff_ne.mpr c6; have c6b1 := bne_iff_ne.mpr c6; (first | rw [c6b0] | (simp only [i64_w, i32_w]; rw [c6b0]) | skip)
    have H' := Aside0.mk H; clear H; go_wp2; go_meet
    case rel => exact ⟨_, (a1), (by first | rfl | (simp; done) | (simp [*]; done)), H', ⟨by first | omega | exact Nat.le_refl _⟩, ⟨by exact pz1⟩⟩
  case rest =>
    clear HC5; obtain ⟨kq, x1_4, rfl, HA, HJ4, HB⟩ := hcut; cases kq with
    | zero => exact absurd HA.out (by simp [point_general.j0])
    | succ kj4 =>
      have H := HA.out; clear HA; simp only [point_general.j0] at H; replace H := Option.bind_eq_some_iff.mp H; obtain ⟨⟨t291, t292, t293⟩, A70, H⟩ := H; (try dsimp only at H); have A7 := Aside0.mk A70; clear A70; have HC8 := Aside0.mk H; clear H; go_upto_region 5 with (first | ((with_reducible refine gate_callee (f := 22) rfl ?_); refine goesL_ (some 19) rfl rfl Tryz.func22 (by kernel_rfl) rfl #[.int .u64 a0, .int .i64 x1_4] rfl (by exact pz4) ?_; (with_reducible refine (fixed_Figures.calls kj4 a0 x1_4 t291 t292 t293 _ A7.out).mono ?_); rintro e w9 ⟨rfl, hb⟩; refine ⟨_, rfl, ?_⟩; have n0_ := Aside0.mk (below_step (by exact pz1) hb); clear HB; have HB := n0_; clear n0_; (try clear hb); ))
      (try simp only [Act.put, List.setIfInBounds_toArray, List.set_cons_zero, List.set_cons_succ])
      go_cut [29] (fun v29 wc => ∃ (kq : Nat) (x29_7 : Bool), v29 = .bool x29_7 ∧ Aside0 (point_general.j1 kq a2 a3 t291 t292 (⟨#[]⟩ : ByteArray) x29_7 = some r) ∧ Aside0 (kq ≤ kj4) ∧ Aside0 (Below w.heap.size w wc))
      case first =>
        have H := HC8.out; clear HC8; by_cases c10 : t292 ≥ (-4)
        · rw [if_pos c10] at H
          have c10b0 : decide ((-4) ≤ t292) = true := decide_eq_true c10; clear c10; (first | rw [c10b0] | (simp only [i64_w, i32_w]; rw [c10b0]) | skip)
          have H' := Aside0.mk H; clear H; go_wp2; go_meet
          case rel => exact ⟨_, (decide (t292 < x1_4)), (by first | rfl | (simp; done) | (simp [*]; done)), H', ⟨by have := HJ4.out; first | omega | exact Nat.le_refl _⟩, ⟨by exact pz1⟩⟩
        rw [if_neg c10] at H; have c10b0 : decide ((-4) ≤ t292) = false := decide_eq_false c10; clear c10; (first | rw [c10b0] | (simp only [i64_w, i32_w]; rw [c10b0]) | skip)
        have H' := Aside0.mk H; clear H; go_wp2; go_meet
        case rel => exact ⟨_, (false), (by first | rfl | (simp; done) | (simp [*]; done)), H', ⟨by have := HJ4.out; first | omega | exact Nat.le_refl _⟩, ⟨by exact pz1⟩⟩
      case rest =>
        clear HC8; obtain ⟨kq, x29_7, rfl, HA, HJ7, HB⟩ := hcut; cases kq with
        | zero => exact absurd HA.out (by simp [point_general.j1])
        | succ kj7 =>
          have H := HA.out; clear HA; simp only [point_general.j1] at H; by_cases c11 : x29_7 = true
          · subst c11
            have H1 : (if t292 < 0 then ((strings_Repeat.f (⟨#[48]⟩ : ByteArray) (wrap64 ((wrap64 (-t292)) - 1))).bind fun t294 => (if 2 + t294.size ≤ 9223372036854775807 then (if ((⟨#[48, 46]⟩ : ByteArray) ++ t294).size + t291.size ≤ 9223372036854775807 then (if a3 = true then (if (((⟨#[48, 46]⟩ : ByteArray) ++ t294) ++ t291).size + (⟨#[]⟩ : ByteArray).size ≤ 9223372036854775807 then (some (((⟨#[48, 46]⟩ : ByteArray) ++ t294) ++ t291)) else (none)) else ((point_strip.f (((⟨#[48, 46]⟩ : ByteArray) ++ t294) ++ t291)).bind fun t295 => (if t295.size + (⟨#[]⟩ : ByteArray).size ≤ 9223372036854775807 then (some t295) else (none)))) else (none)) else (none))) else (if (wrap64 (t292 + 1)) = (t291.size : Int) then (if t291.size + 1 ≤ 9223372036854775807 then (if a3 = true then (if (t291 ++ (⟨#[46]⟩ : ByteArray)).size + (⟨#[]⟩ : ByteArray).size ≤ 9223372036854775807 then (some (t291 ++ (⟨#[46]⟩ : ByteArray))) else (none)) else ((point_strip.f (t291 ++ (⟨#[46]⟩ : ByteArray))).bind fun t296 => (if t296.size + (⟨#[]⟩ : ByteArray).size ≤ 9223372036854775807 then (some t296) else (none)))) else (none)) else (if 0 ≤ (wrap64 (t292 + 1)) then (if (wrap64 (t292 + 1)) ≤ (t291.size : Int) then (if (t291.extract 0 ((wrap64 (t292 + 1)) : Int).toNat).size + 1 ≤ 9223372036854775807 then (if ((t291.extract 0 ((wrap64 (t292 + 1)) : Int).toNat) ++ (⟨#[46]⟩ : ByteArray)).size + (t291.extract ((wrap64 (t292 + 1)) : Int).toNat t291.size).size ≤ 9223372036854775807 then (if a3 = true then (if (((t291.extract 0 ((wrap64 (t292 + 1)) : Int).toNat) ++ (⟨#[46]⟩ : ByteArray)) ++ (t291.extract ((wrap64 (t292 + 1)) : Int).toNat t291.size)).size + (⟨#[]⟩ : ByteArray).size ≤ 9223372036854775807 then (some (((t291.extract 0 ((wrap64 (t292 + 1)) : Int).toNat) ++ (⟨#[46]⟩ : ByteArray)) ++ (t291.extract ((wrap64 (t292 + 1)) : Int).toNat t291.size))) else (none)) else ((point_strip.f (((t291.extract 0 ((wrap64 (t292 + 1)) : Int).toNat) ++ (⟨#[46]⟩ : ByteArray)) ++ (t291.extract ((wrap64 (t292 + 1)) : Int).toNat t291.size))).bind fun t297 => (if t297.size + (⟨#[]⟩ : ByteArray).size ≤ 9223372036854775807 then (some t297) else (none)))) else (none)) else (none)) else (none)) else (none)))) = some r := by rw [if_pos rfl] at H; first | exact H | (simp only [append_nothing] at H; exact H)
            clear H; have H := H1; clear H1; by_cases c12 : t292 < 0
            · rw [if_pos c12] at H
              have c12b0 := decide_eq_true c12; clear c12; replace H := Option.bind_eq_some_iff.mp H; obtain ⟨t294, A130, H⟩ := H; (try dsimp only at H); have A13 := Aside0.mk A130; clear A130; by_cases c14 : 2 + t294.size ≤ 9223372036854775807
              · rw [if_pos c14] at H
                have c14b0 := eq_true c14; have c14b1 := decide_eq_true c14; (try have c14b2 : (9223372036854775807 < 2 + t294.size) = False := eq_false (Nat.not_lt.2 c14)); (try have c14b3 := c14b2); (try simp only [ByteArray.size_append, size_lit, List.size_toArray, List.length_cons, List.length_nil, Nat.reduceAdd] at c14b3); by_cases c15 : ((⟨#[48, 46]⟩ : ByteArray) ++ t294).size + t291.size ≤ 9223372036854775807
                · rw [if_pos c15] at H
                  have c15b0 := eq_true c15; have c15b1 := decide_eq_true c15; (try have c15b2 : (9223372036854775807 < ((⟨#[48, 46]⟩ : ByteArray) ++ t294).size + t291.size) = False := eq_false (Nat.not_lt.2 c15)); (try have c15b3 := c15b2); (try simp only [ByteArray.size_append, size_lit, List.size_toArray, List.length_cons, List.length_nil, Nat.reduceAdd] at c15b3); by_cases c16 : a3 = true
                  · subst c16
                    have H1 : (if (((⟨#[48, 46]⟩ : ByteArray) ++ t294) ++ t291).size + (⟨#[]⟩ : ByteArray).size ≤ 9223372036854775807 then (some (((⟨#[48, 46]⟩ : ByteArray) ++ t294) ++ t291)) else (none)) = some r := by rw [if_pos rfl] at H; first | exact H | (simp only [append_nothing] at H; exact H)
                    clear H; have H := H1; clear H1; by_cases c17 : (((⟨#[48, 46]⟩ : ByteArray) ++ t294) ++ t291).size + (⟨#[]⟩ : ByteArray).size ≤ 9223372036854775807
                    · rw [if_pos c17] at H
                      have c17b0 := eq_true c17; have c17b1 := decide_eq_true c17; (try have c17b2 : (9223372036854775807 < (((⟨#[48, 46]⟩ : ByteArray) ++ t294) ++ t291).size + (⟨#[]⟩ : ByteArray).size) = False := eq_false (Nat.not_lt.2 c17)); (try have c17b3 := c17b2); (try simp only [ByteArray.size_append, size_lit, List.size_toArray, List.length_cons, List.length_nil, Nat.reduceAdd] at c17b3); obtain rfl := Option.some.inj H; exact point_general.w1
                    rw [if_neg c17] at H; exact absurd H (by simp)
                  replace c16 := Bool.eq_false_iff.mpr c16; subst c16; have H1 : ((point_strip.f (((⟨#[48, 46]⟩ : ByteArray) ++ t294) ++ t291)).bind fun t295 => (if t295.size + (⟨#[]⟩ : ByteArray).size ≤ 9223372036854775807 then (some t295) else (none))) = some r := by rw [if_neg (show ¬ (false = true) by decide)] at H; first | exact H | (simp only [append_nothing] at H; exact H)
                  clear H; have H := H1; clear H1; replace H := Option.bind_eq_some_iff.mp H; obtain ⟨t295, A190, H⟩ := H; (try dsimp only at H); have A19 := Aside0.mk A190; clear A190; by_cases c20 : t295.size + (⟨#[]⟩ : ByteArray).size ≤ 9223372036854775807
                  · rw [if_pos c20] at H
                    have c20b0 := eq_true c20; have c20b1 := decide_eq_true c20; (try have c20b2 : (9223372036854775807 < t295.size + (⟨#[]⟩ : ByteArray).size) = False := eq_false (Nat.not_lt.2 c20)); (try have c20b3 := c20b2); (try simp only [ByteArray.size_append, size_lit, List.size_toArray, List.length_cons, List.length_nil, Nat.reduceAdd] at c20b3); obtain rfl := Option.some.inj H; go_wp2_with (first | ((with_reducible refine gate_callee (f := 54) rfl ?_); refine goesL_ (some 46) rfl rfl Tryz.func54 (by kernel_rfl) rfl #[.string (⟨#[48]⟩ : ByteArray), .int .i64 (wrap64 ((wrap64 (-t292)) - 1))] rfl (by exact pz4) ?_; (with_reducible refine (strings_Repeat.calls (⟨#[48]⟩ : ByteArray) (wrap64 ((wrap64 (-t292)) - 1)) t294 _ A13.out).mono ?_); rintro e w21 ⟨rfl, hb⟩; refine ⟨_, rfl, ?_⟩; have n0_ := Aside0.mk (below_step (by exact pz1) hb); clear HB; have HB := n0_; clear n0_; (try clear hb); ) | ((with_reducible refine gate_callee (f := 87) rfl ?_); refine goesL_ (some 72) rfl rfl Tryz.func87 (by kernel_rfl) rfl #[.string (((⟨#[48, 46]⟩ : ByteArray) ++ t294) ++ t291)] rfl (by exact pz4) ?_; (with_reducible refine (point_strip.calls (((⟨#[48, 46]⟩ : ByteArray) ++ t294) ++ t291) t295 _ A19.out).mono ?_); rintro e w' ⟨rfl, ⟨nd, rfl⟩⟩; refine ⟨_, rfl, ?_⟩)); go_ret; exact ⟨by exact pz2, by exact pz1⟩
                  rw [if_neg c20] at H; exact absurd H (by simp)
                rw [if_neg c15] at H; exact absurd H (by simp)
              rw [if_neg c14] at H; exact absurd H (by simp)
            rw [if_neg c12] at H; have c12b0 := decide_eq_false c12; clear c12; by_cases c22 : (wrap64 (t292 + 1)) = (t291.size : Int)
            · rw [if_pos c22] at H
              have c22b0 := beq_iff_eq.mpr c22; have c22b1 := bne_eq_false_iff_eq.mpr c22; clear c22; by_cases c23 : t291.size + 1 ≤ 9223372036854775807
              · rw [if_pos c23] at H
                have c23b0 := eq_true c23; have c23b1 := decide_eq_true c23; (try have c23b2 : (9223372036854775807 < t291.size + 1) = False := eq_false (Nat.not_lt.2 c23)); (try have c23b3 := c23b2); (try simp only [ByteArray.size_append, size_lit, List.size_toArray, List.length_cons, List.length_nil, Nat.reduceAdd] at c23b3); by_cases c24 : a3 = true
                · subst c24
                  have H1 : (if (t291 ++ (⟨#[46]⟩ : ByteArray)).size + (⟨#[]⟩ : ByteArray).size ≤ 9223372036854775807 then (some (t291 ++ (⟨#[46]⟩ : ByteArray))) else (none)) = some r := by rw [if_pos rfl] at H; first | exact H | (simp only [append_nothing] at H; exact H)
                  clear H; have H := H1; clear H1; by_cases c25 : (t291 ++ (⟨#[46]⟩ : ByteArray)).size + (⟨#[]⟩ : ByteArray).size ≤ 9223372036854775807
                  · rw [if_pos c25] at H
                    have c25b0 := eq_true c25; have c25b1 := decide_eq_true c25; (try have c25b2 : (9223372036854775807 < (t291 ++ (⟨#[46]⟩ : ByteArray)).size + (⟨#[]⟩ : ByteArray).size) = False := eq_false (Nat.not_lt.2 c25)); (try have c25b3 := c25b2); (try simp only [ByteArray.size_append, size_lit, List.size_toArray, List.length_cons, List.length_nil, Nat.reduceAdd] at c25b3); obtain rfl := Option.some.inj H; go_wp2; go_ret; exact ⟨by exact pz2, by exact pz1⟩
                  rw [if_neg c25] at H; exact absurd H (by simp)
                replace c24 := Bool.eq_false_iff.mpr c24; subst c24; have H1 : ((point_strip.f (t291 ++ (⟨#[46]⟩ : ByteArray))).bind fun t296 => (if t296.size + (⟨#[]⟩ : ByteArray).size ≤ 9223372036854775807 then (some t296) else (none))) = some r := by rw [if_neg (show ¬ (false = true) by decide)] at H; first | exact H | (simp only [append_nothing] at H; exact H)
                clear H; have H := H1; clear H1; replace H := Option.bind_eq_some_iff.mp H; obtain ⟨t296, A260, H⟩ := H; (try dsimp only at H); have A26 := Aside0.mk A260; clear A260; by_cases c27 : t296.size + (⟨#[]⟩ : ByteArray).size ≤ 9223372036854775807
                · rw [if_pos c27] at H
                  have c27b0 := eq_true c27; have c27b1 := decide_eq_true c27; (try have c27b2 : (9223372036854775807 < t296.size + (⟨#[]⟩ : ByteArray).size) = False := eq_false (Nat.not_lt.2 c27)); (try have c27b3 := c27b2); (try simp only [ByteArray.size_append, size_lit, List.size_toArray, List.length_cons, List.length_nil, Nat.reduceAdd] at c27b3); obtain rfl := Option.some.inj H; exact point_general.w1
                rw [if_neg c27] at H; exact absurd H (by simp)
              rw [if_neg c23] at H; exact absurd H (by simp)
            rw [if_neg c22] at H; have c22b0 := beq_eq_false_iff_ne.mpr c22; have c22b1 := bne_iff_ne.mpr c22; obtain ⟨ji28, hji28⟩ : ∃ j_ : Int, (wrap64 (t292 + 1)) = j_ := ⟨_, rfl⟩; replace H : (if 0 ≤ (ji28) then (if (ji28) ≤ (t291.size : Int) then (if (t291.extract 0 ((ji28) : Int).toNat).size + 1 ≤ 9223372036854775807 then (if ((t291.extract 0 ((ji28) : Int).toNat) ++ (⟨#[46]⟩ : ByteArray)).size + (t291.extract ((ji28) : Int).toNat t291.size).size ≤ 9223372036854775807 then (if a3 = true then (if (((t291.extract 0 ((ji28) : Int).toNat) ++ (⟨#[46]⟩ : ByteArray)) ++ (t291.extract ((ji28) : Int).toNat t291.size)).size + (⟨#[]⟩ : ByteArray).size ≤ 9223372036854775807 then (some (((t291.extract 0 ((ji28) : Int).toNat) ++ (⟨#[46]⟩ : ByteArray)) ++ (t291.extract ((ji28) : Int).toNat t291.size))) else (none)) else ((point_strip.f (((t291.extract 0 ((ji28) : Int).toNat) ++ (⟨#[46]⟩ : ByteArray)) ++ (t291.extract ((ji28) : Int).toNat t291.size))).bind fun t297 => (if t297.size + (⟨#[]⟩ : ByteArray).size ≤ 9223372036854775807 then (some t297) else (none)))) else (none)) else (none)) else (none)) else (none)) = some r := by first | (rw [hji28] at H; exact H) | (simp only [hji28] at H ⊢; exact H)
            (try rw [hji28] at c22b0)
            (try rw [hji28] at c22b1)
            have hji28w : (IntKind.i64.wrap (t292 + 1)) = ji28 := (i64_w _).trans hji28; by_cases c29 : 0 ≤ (ji28)
            · rw [if_pos c29] at H
              have c29b0 := eq_true c29; have c29b1 := decide_eq_true c29; clear c29; by_cases c30 : (ji28) ≤ (t291.size : Int)
              · rw [if_pos c30] at H
                have c30b0 := eq_true c30; have c30b1 := decide_eq_true c30; clear c30; by_cases c31 : (t291.extract 0 ((ji28) : Int).toNat).size + 1 ≤ 9223372036854775807
                · rw [if_pos c31] at H
                  have c31b0 := eq_true c31; have c31b1 := decide_eq_true c31; (try have c31b2 : (9223372036854775807 < (t291.extract 0 ((ji28) : Int).toNat).size + 1) = False := eq_false (Nat.not_lt.2 c31)); (try have c31b8 := c31b2); (try simp only [ByteArray.size_append, ByteArray.size_extract, size_lit, List.size_toArray, List.length_cons, List.length_nil, Nat.reduceAdd, Nat.sub_zero, Nat.min_self] at c31b8); (try (rw [show min (ji28 : Int).toNat t291.size = (ji28 : Int).toNat from Nat.min_eq_left (Int.toNat_le.2 (of_decide_eq_true (by exact pz8)))] at c31b8)); (try (have c31b7 := c31b8; rw [Nat.add_zero] at c31b7)); (try have c31b3 := c31b2); (try simp only [ByteArray.size_append, size_lit, List.size_toArray, List.length_cons, List.length_nil, Nat.reduceAdd] at c31b3); have c32b0 := eq_true (of_decide_eq_true (by exact pz8) : 0 ≤ (ji28)); have c33b0 := eq_true (of_decide_eq_true (by exact pz8) : (ji28) ≤ (t291.size : Int)); by_cases c34 : ((t291.extract 0 ((ji28) : Int).toNat) ++ (⟨#[46]⟩ : ByteArray)).size + (t291.extract ((ji28) : Int).toNat t291.size).size ≤ 9223372036854775807
                  · rw [if_pos c34] at H
                    have c34b0 := eq_true c34; have c34b1 := decide_eq_true c34; (try have c34b2 : (9223372036854775807 < ((t291.extract 0 ((ji28) : Int).toNat) ++ (⟨#[46]⟩ : ByteArray)).size + (t291.extract ((ji28) : Int).toNat t291.size).size) = False := eq_false (Nat.not_lt.2 c34)); (try have c34b8 := c34b2); (try simp only [ByteArray.size_append, ByteArray.size_extract, size_lit, List.size_toArray, List.length_cons, List.length_nil, Nat.reduceAdd, Nat.sub_zero, Nat.min_self] at c34b8); (try (rw [show min (ji28 : Int).toNat t291.size = (ji28 : Int).toNat from Nat.min_eq_left (Int.toNat_le.2 (of_decide_eq_true (by exact pz8)))] at c34b8)); (try (have c34b7 := c34b8; rw [Nat.add_zero] at c34b7)); (try have c34b3 := c34b2); (try simp only [ByteArray.size_append, size_lit, List.size_toArray, List.length_cons, List.length_nil, Nat.reduceAdd] at c34b3); by_cases c35 : a3 = true
                    · subst c35
                      have H1 : (if (((t291.extract 0 ((ji28) : Int).toNat) ++ (⟨#[46]⟩ : ByteArray)) ++ (t291.extract ((ji28) : Int).toNat t291.size)).size + (⟨#[]⟩ : ByteArray).size ≤ 9223372036854775807 then (some (((t291.extract 0 ((ji28) : Int).toNat) ++ (⟨#[46]⟩ : ByteArray)) ++ (t291.extract ((ji28) : Int).toNat t291.size))) else (none)) = some r := by rw [if_pos rfl] at H; first | exact H | (simp only [append_nothing] at H; exact H)
                      clear H; have H := H1; clear H1; by_cases c36 : (((t291.extract 0 ((ji28) : Int).toNat) ++ (⟨#[46]⟩ : ByteArray)) ++ (t291.extract ((ji28) : Int).toNat t291.size)).size + (⟨#[]⟩ : ByteArray).size ≤ 9223372036854775807
                      · rw [if_pos c36] at H
                        have c36b0 := eq_true c36; have c36b1 := decide_eq_true c36; (try have c36b2 : (9223372036854775807 < (((t291.extract 0 ((ji28) : Int).toNat) ++ (⟨#[46]⟩ : ByteArray)) ++ (t291.extract ((ji28) : Int).toNat t291.size)).size + (⟨#[]⟩ : ByteArray).size) = False := eq_false (Nat.not_lt.2 c36)); (try have c36b8 := c36b2); (try simp only [ByteArray.size_append, ByteArray.size_extract, size_lit, List.size_toArray, List.length_cons, List.length_nil, Nat.reduceAdd, Nat.sub_zero, Nat.min_self] at c36b8); (try (rw [show min (ji28 : Int).toNat t291.size = (ji28 : Int).toNat from Nat.min_eq_left (Int.toNat_le.2 (of_decide_eq_true (by exact pz8)))] at c36b8)); (try (have c36b7 := c36b8; rw [Nat.add_zero] at c36b7)); (try have c36b3 := c36b2); (try simp only [ByteArray.size_append, size_lit, List.size_toArray, List.length_cons, List.length_nil, Nat.reduceAdd] at c36b3); obtain rfl := Option.some.inj H; (try go_wp2); have n0_ := Aside0.mk (below_drew1 HB.out); clear HB; have HB := n0_; clear n0_; refine start_ (n := 11) (S := fun w' => True) (ds := []) #[false, false, false, false, false, false, false, false, false, false, false] (by kernel_rfl) rfl rfl trivial (fun hHeld => ?_); refine with_tabW point_general.tab6 point_general.bits6 (fun HT_ HW_ => ?_); generalize wc.drew = w37 at HB hHeld ⊢; refine pure_ (i := 0) (N := some 30) (v := ?_) (a' := ?_) #[true, false, false, false, false, false, false, false, false, false, false] rfl rfl (any_of HT_.out (by kernel_rfl)) (fun _ _ _ h => h) (Or.inl ⟨by rfl, ?_⟩) ?_ ?_; rotate_left
                        · intro w'
                          go_simp
                          with_reducible rfl
                        rotate_left
                        · simp only [Act.put, List.setIfInBounds_toArray, List.set_cons_zero, List.set_cons_succ, i64_w, i32_w]
                          rfl
                        refine pure_ (i := 1) (N := some 31) (v := ?_) (a' := ?_) #[true, true, false, false, false, false, false, false, false, false, false] rfl rfl (any_of HT_.out (by kernel_rfl)) (fun _ _ _ h => h) (Or.inl ⟨by rfl, ?_⟩) ?_ ?_; rotate_left
                        · intro w'
                          go_simp
                          with_reducible rfl
                        rotate_left
                        · simp only [Act.put, List.setIfInBounds_toArray, List.set_cons_zero, List.set_cons_succ, i64_w, i32_w]
                          rfl
                        refine pure_ (i := 2) (N := some 32) (v := ?_) (a' := ?_) #[true, true, true, false, false, false, false, false, false, false, false] rfl rfl (any_of HT_.out (by kernel_rfl)) (fun _ _ _ h => h) (Or.inl ⟨by rfl, ?_⟩) ?_ ?_; rotate_left
                        · intro w'
                          go_simp
                          with_reducible rfl
                        rotate_left
                        · simp only [Act.put, List.setIfInBounds_toArray, List.set_cons_zero, List.set_cons_succ, i64_w, i32_w]
                          rfl
                        refine pure_ (i := 3) (N := some 33) (v := ?_) (a' := ?_) #[true, true, true, true, false, false, false, false, false, false, false] rfl rfl (any_of HT_.out (by kernel_rfl)) (fun _ _ _ h => h) (Or.inl ⟨by rfl, ?_⟩) ?_ ?_; rotate_left
                        · intro w'
                          go_simp
                          with_reducible rfl
                        rotate_left
                        · simp only [Act.put, List.setIfInBounds_toArray, List.set_cons_zero, List.set_cons_succ, i64_w, i32_w]
                          rfl
                        refine pure_ (i := 4) (N := some 34) (v := ?_) (a' := ?_) #[true, true, true, true, true, false, false, false, false, false, false] rfl rfl (any_of HT_.out (by kernel_rfl)) (fun _ _ _ h => h) (Or.inl ⟨by rfl, ?_⟩) ?_ ?_; rotate_left
                        · intro w'
                          go_simp
                          with_reducible rfl
                        rotate_left
                        · simp only [Act.put, List.setIfInBounds_toArray, List.set_cons_zero, List.set_cons_succ, i64_w, i32_w]
                          rfl
                        refine pure_ (i := 5) (N := some 35) (v := ?_) (a' := ?_) #[true, true, true, true, true, true, false, false, false, false, false] rfl rfl (any_of HT_.out (by kernel_rfl)) (fun _ _ _ h => h) (Or.inl ⟨by rfl, ?_⟩) ?_ ?_; rotate_left
                        · intro w'
                          go_simp
                          with_reducible rfl
                        rotate_left
                        · simp only [Act.put, List.setIfInBounds_toArray, List.set_cons_zero, List.set_cons_succ, i64_w, i32_w]
                          rfl
                        refine pure_ (i := 6) (N := some 36) (v := ?_) (a' := ?_) #[true, true, true, true, true, true, true, false, false, false, false] rfl rfl (any_of HT_.out (by kernel_rfl)) (fun _ _ _ h => h) (Or.inl ⟨by rfl, ?_⟩) ?_ ?_; rotate_left
                        · intro w'
                          go_simp
                          with_reducible rfl
                        rotate_left
                        · simp only [Act.put, List.setIfInBounds_toArray, List.set_cons_zero, List.set_cons_succ, i64_w, i32_w]
                          rfl
                        refine pure_ (i := 7) (N := some 37) (v := ?_) (a' := ?_) #[true, true, true, true, true, true, true, true, false, false, false] rfl rfl (any_of HT_.out (by kernel_rfl)) (fun _ _ _ h => h) (Or.inl ⟨by rfl, ?_⟩) ?_ ?_; rotate_left
                        · intro w'
                          go_simp
                          with_reducible rfl
                        rotate_left
                        · simp only [Act.put, List.setIfInBounds_toArray, List.set_cons_zero, List.set_cons_succ, i64_w, i32_w]
                          rfl
                        refine pure_ (i := 8) (N := some 38) (v := ?_) (a' := ?_) #[true, true, true, true, true, true, true, true, true, false, false] rfl rfl (any_of HT_.out (by kernel_rfl)) (fun _ _ _ h => h) (Or.inl ⟨by rfl, ?_⟩) ?_ ?_; rotate_left
                        · intro w'
                          go_simp
                          with_reducible rfl
                        rotate_left
                        · simp only [Act.put, List.setIfInBounds_toArray, List.set_cons_zero, List.set_cons_succ, i64_w, i32_w]
                          rfl
                        refine pure_ (i := 9) (N := some 39) (v := ?_) (a' := ?_) #[true, true, true, true, true, true, true, true, true, true, false] rfl rfl (any_of HT_.out (by kernel_rfl)) (fun _ _ _ h => h) (Or.inl ⟨by rfl, ?_⟩) ?_ ?_; rotate_left
                        · intro w'
                          go_simp
                          with_reducible rfl
                        rotate_left
                        · simp only [Act.put, List.setIfInBounds_toArray, List.set_cons_zero, List.set_cons_succ, i64_w, i32_w]
                          rfl
                        refine pure_ (i := 10) (N := some 12) (v := ?_) (a' := ?_) #[true, true, true, true, true, true, true, true, true, true, true] rfl rfl (any_of HT_.out (by kernel_rfl)) (fun _ _ _ h => h) (Or.inl ⟨by rfl, ?_⟩) ?_ ?_; rotate_left
                        · intro w'
                          go_simp
                          with_reducible rfl
                        rotate_left
                        · simp only [Act.put, List.setIfInBounds_toArray, List.set_cons_zero, List.set_cons_succ, i64_w, i32_w]
                          rfl
                        refine done_ (done_of HT_.out (by kernel_rfl)) ?_; (try go_wp2); go_ret; exact ⟨by exact phCx11_5, by exact pz1⟩
                      rw [if_neg c36] at H; exact absurd H (by simp)
                    replace c35 := Bool.eq_false_iff.mpr c35; subst c35; have H1 : ((point_strip.f (((t291.extract 0 ((ji28) : Int).toNat) ++ (⟨#[46]⟩ : ByteArray)) ++ (t291.extract ((ji28) : Int).toNat t291.size))).bind fun t297 => (if t297.size + (⟨#[]⟩ : ByteArray).size ≤ 9223372036854775807 then (some t297) else (none))) = some r := by rw [if_neg (show ¬ (false = true) by decide)] at H; first | exact H | (simp only [append_nothing] at H; exact H)
                    clear H; have H := H1; clear H1; replace H := Option.bind_eq_some_iff.mp H; obtain ⟨t297, A380, H⟩ := H; (try dsimp only at H); have A38 := Aside0.mk A380; clear A380; by_cases c39 : t297.size + (⟨#[]⟩ : ByteArray).size ≤ 9223372036854775807
                    · rw [if_pos c39] at H
                      have c39b0 := eq_true c39; have c39b1 := decide_eq_true c39; (try have c39b2 : (9223372036854775807 < t297.size + (⟨#[]⟩ : ByteArray).size) = False := eq_false (Nat.not_lt.2 c39)); (try have c39b3 := c39b2); (try simp only [ByteArray.size_append, size_lit, List.size_toArray, List.length_cons, List.length_nil, Nat.reduceAdd] at c39b3); obtain rfl := Option.some.inj H; (try go_wp2); have n0_ := Aside0.mk (below_drew1 HB.out); clear HB; have HB := n0_; clear n0_; refine start_ (n := 11) (S := fun w' => True) (ds := []) #[false, false, false, false, false, false, false, false, false, false, false] (by kernel_rfl) rfl rfl trivial (fun hHeld => ?_); refine with_tabW point_general.tab6 point_general.bits6 (fun HT_ HW_ => ?_); generalize wc.drew = w40 at HB hHeld ⊢; refine pure_ (i := 0) (N := some 30) (v := ?_) (a' := ?_) #[true, false, false, false, false, false, false, false, false, false, false] rfl rfl (any_of HT_.out (by kernel_rfl)) (fun _ _ _ h => h) (Or.inl ⟨by rfl, ?_⟩) ?_ ?_; rotate_left
                      · intro w'
                        go_simp
                        with_reducible rfl
                      rotate_left
                      · simp only [Act.put, List.setIfInBounds_toArray, List.set_cons_zero, List.set_cons_succ, i64_w, i32_w]
                        rfl
                      refine pure_ (i := 1) (N := some 31) (v := ?_) (a' := ?_) #[true, true, false, false, false, false, false, false, false, false, false] rfl rfl (any_of HT_.out (by kernel_rfl)) (fun _ _ _ h => h) (Or.inl ⟨by rfl, ?_⟩) ?_ ?_; rotate_left
                      · intro w'
                        go_simp
                        with_reducible rfl
                      rotate_left
                      · simp only [Act.put, List.setIfInBounds_toArray, List.set_cons_zero, List.set_cons_succ, i64_w, i32_w]
                        rfl
                      refine pure_ (i := 2) (N := some 32) (v := ?_) (a' := ?_) #[true, true, true, false, false, false, false, false, false, false, false] rfl rfl (any_of HT_.out (by kernel_rfl)) (fun _ _ _ h => h) (Or.inl ⟨by rfl, ?_⟩) ?_ ?_; rotate_left
                      · intro w'
                        go_simp
                        with_reducible rfl
                      rotate_left
                      · simp only [Act.put, List.setIfInBounds_toArray, List.set_cons_zero, List.set_cons_succ, i64_w, i32_w]
                        rfl
                      refine pure_ (i := 3) (N := some 33) (v := ?_) (a' := ?_) #[true, true, true, true, false, false, false, false, false, false, false] rfl rfl (any_of HT_.out (by kernel_rfl)) (fun _ _ _ h => h) (Or.inl ⟨by rfl, ?_⟩) ?_ ?_; rotate_left
                      · intro w'
                        go_simp
                        with_reducible rfl
                      rotate_left
                      · simp only [Act.put, List.setIfInBounds_toArray, List.set_cons_zero, List.set_cons_succ, i64_w, i32_w]
                        rfl
                      refine pure_ (i := 4) (N := some 34) (v := ?_) (a' := ?_) #[true, true, true, true, true, false, false, false, false, false, false] rfl rfl (any_of HT_.out (by kernel_rfl)) (fun _ _ _ h => h) (Or.inl ⟨by rfl, ?_⟩) ?_ ?_; rotate_left
                      · intro w'
                        go_simp
                        with_reducible rfl
                      rotate_left
                      · simp only [Act.put, List.setIfInBounds_toArray, List.set_cons_zero, List.set_cons_succ, i64_w, i32_w]
                        rfl
                      refine pure_ (i := 5) (N := some 35) (v := ?_) (a' := ?_) #[true, true, true, true, true, true, false, false, false, false, false] rfl rfl (any_of HT_.out (by kernel_rfl)) (fun _ _ _ h => h) (Or.inl ⟨by rfl, ?_⟩) ?_ ?_; rotate_left
                      · intro w'
                        go_simp
                        with_reducible rfl
                      rotate_left
                      · simp only [Act.put, List.setIfInBounds_toArray, List.set_cons_zero, List.set_cons_succ, i64_w, i32_w]
                        rfl
                      refine pure_ (i := 6) (N := some 36) (v := ?_) (a' := ?_) #[true, true, true, true, true, true, true, false, false, false, false] rfl rfl (any_of HT_.out (by kernel_rfl)) (fun _ _ _ h => h) (Or.inl ⟨by rfl, ?_⟩) ?_ ?_; rotate_left
                      · intro w'
                        go_simp
                        with_reducible rfl
                      rotate_left
                      · simp only [Act.put, List.setIfInBounds_toArray, List.set_cons_zero, List.set_cons_succ, i64_w, i32_w]
                        rfl
                      refine pure_ (i := 7) (N := some 37) (v := ?_) (a' := ?_) #[true, true, true, true, true, true, true, true, false, false, false] rfl rfl (any_of HT_.out (by kernel_rfl)) (fun _ _ _ h => h) (Or.inl ⟨by rfl, ?_⟩) ?_ ?_; rotate_left
                      · intro w'
                        go_simp
                        with_reducible rfl
                      rotate_left
                      · simp only [Act.put, List.setIfInBounds_toArray, List.set_cons_zero, List.set_cons_succ, i64_w, i32_w]
                        rfl
                      refine pure_ (i := 8) (N := some 38) (v := ?_) (a' := ?_) #[true, true, true, true, true, true, true, true, true, false, false] rfl rfl (any_of HT_.out (by kernel_rfl)) (fun _ _ _ h => h) (Or.inl ⟨by rfl, ?_⟩) ?_ ?_; rotate_left
                      · intro w'
                        go_simp
                        with_reducible rfl
                      rotate_left
                      · simp only [Act.put, List.setIfInBounds_toArray, List.set_cons_zero, List.set_cons_succ, i64_w, i32_w]
                        rfl
                      refine pure_ (i := 9) (N := some 39) (v := ?_) (a' := ?_) #[true, true, true, true, true, true, true, true, true, true, false] rfl rfl (any_of HT_.out (by kernel_rfl)) (fun _ _ _ h => h) (Or.inl ⟨by rfl, ?_⟩) ?_ ?_; rotate_left
                      · intro w'
                        go_simp
                        with_reducible rfl
                      rotate_left
                      · simp only [Act.put, List.setIfInBounds_toArray, List.set_cons_zero, List.set_cons_succ, i64_w, i32_w]
                        rfl
                      refine pure_ (i := 10) (N := some 12) (v := ?_) (a' := ?_) #[true, true, true, true, true, true, true, true, true, true, true] rfl rfl (any_of HT_.out (by kernel_rfl)) (fun _ _ _ h => h) (Or.inl ⟨by rfl, ?_⟩) ?_ ?_; rotate_left
                      · intro w'
                        go_simp
                        with_reducible rfl
                      rotate_left
                      · simp only [Act.put, List.setIfInBounds_toArray, List.set_cons_zero, List.set_cons_succ, i64_w, i32_w]
                        rfl
                      refine done_ (done_of HT_.out (by kernel_rfl)) ?_; (try go_wp2_with (first | ((with_reducible refine gate_callee (f := 87) rfl ?_); refine goesL_ (some 72) rfl rfl Tryz.func87 (by kernel_rfl) rfl #[.string (((t291.extract 0 ((ji28) : Int).toNat) ++ (⟨#[46]⟩ : ByteArray)) ++ (t291.extract ((ji28) : Int).toNat t291.size))] rfl (by (try simp only [List.map_toArray, List.map_cons, List.map_nil]); first | done | (simp only [hji28]; rfl) | rfl | (simp only [List.length_drop, List.length_take]; rfl)) ?_; (with_reducible refine (point_strip.calls (((t291.extract 0 ((ji28) : Int).toNat) ++ (⟨#[46]⟩ : ByteArray)) ++ (t291.extract ((ji28) : Int).toNat t291.size)) t297 _ A38.out).mono ?_); rintro e w' ⟨rfl, ⟨nd, rfl⟩⟩; refine ⟨_, rfl, ?_⟩))); go_ret; exact ⟨by exact phCx11_5, by exact pz1⟩
                    rw [if_neg c39] at H; exact absurd H (by simp)
                  rw [if_neg c34] at H; exact absurd H (by simp)
                rw [if_neg c31] at H; exact absurd H (by simp)
              rw [if_neg c30] at H; exact absurd H (by simp)
            rw [if_neg c29] at H; exact absurd H (by simp)
          replace c11 := Bool.eq_false_iff.mpr c11; subst c11; rw [if_neg (show ¬ (false = true) by decide)] at H; by_cases c41 : 0 ≤ 1
          · rw [if_pos c41] at H
            have c41b0 := eq_true c41; have c41b1 := decide_eq_true c41; clear c41; by_cases c42 : 1 ≤ (t291.size : Int)
            · rw [if_pos c42] at H
              have c42b0 := eq_true c42; have c42b1 := decide_eq_true c42; clear c42; by_cases c43 : (t291.extract 0 1).size + 1 ≤ 9223372036854775807
              · rw [if_pos c43] at H
                have c43b0 := eq_true c43; have c43b1 := decide_eq_true c43; (try have c43b2 : (9223372036854775807 < (t291.extract 0 1).size + 1) = False := eq_false (Nat.not_lt.2 c43)); (try have c43b8 := c43b2); (try simp only [ByteArray.size_append, ByteArray.size_extract, size_lit, List.size_toArray, List.length_cons, List.length_nil, Nat.reduceAdd, Nat.sub_zero, Nat.min_self] at c43b8); (try (have c43b7 := c43b8; rw [Nat.add_zero] at c43b7)); (try have c43b3 := c43b2); (try simp only [ByteArray.size_append, size_lit, List.size_toArray, List.length_cons, List.length_nil, Nat.reduceAdd] at c43b3); have c44b0 := eq_true (of_decide_eq_true (by exact pz8) : 1 ≤ (t291.size : Int)); by_cases c45 : ((t291.extract 0 1) ++ (⟨#[46]⟩ : ByteArray)).size + (t291.extract 1 t291.size).size ≤ 9223372036854775807
                · rw [if_pos c45] at H
                  have c45b0 := eq_true c45; have c45b1 := decide_eq_true c45; (try have c45b2 : (9223372036854775807 < ((t291.extract 0 1) ++ (⟨#[46]⟩ : ByteArray)).size + (t291.extract 1 t291.size).size) = False := eq_false (Nat.not_lt.2 c45)); (try have c45b8 := c45b2); (try simp only [ByteArray.size_append, ByteArray.size_extract, size_lit, List.size_toArray, List.length_cons, List.length_nil, Nat.reduceAdd, Nat.sub_zero, Nat.min_self] at c45b8); (try (have c45b7 := c45b8; rw [Nat.add_zero] at c45b7)); (try have c45b3 := c45b2); (try simp only [ByteArray.size_append, size_lit, List.size_toArray, List.length_cons, List.length_nil, Nat.reduceAdd] at c45b3); replace H := Option.bind_eq_some_iff.mp H; obtain ⟨t298, A460, H⟩ := H; (try dsimp only at H); have A46 := Aside0.mk A460; clear A460; by_cases c47 : a3 = true
                  · subst c47
                    rw [if_pos rfl] at H; by_cases c48 : (((t291.extract 0 1) ++ (⟨#[46]⟩ : ByteArray)) ++ (t291.extract 1 t291.size)).size + t298.size ≤ 9223372036854775807
                    · rw [if_pos c48] at H
                      have c48b0 := eq_true c48; have c48b1 := decide_eq_true c48; (try have c48b2 : (9223372036854775807 < (((t291.extract 0 1) ++ (⟨#[46]⟩ : ByteArray)) ++ (t291.extract 1 t291.size)).size + t298.size) = False := eq_false (Nat.not_lt.2 c48)); (try have c48b8 := c48b2); (try simp only [ByteArray.size_append, ByteArray.size_extract, size_lit, List.size_toArray, List.length_cons, List.length_nil, Nat.reduceAdd, Nat.sub_zero, Nat.min_self] at c48b8); (try (have c48b7 := c48b8; rw [Nat.add_zero] at c48b7)); (try have c48b3 := c48b2); (try simp only [ByteArray.size_append, size_lit, List.size_toArray, List.length_cons, List.length_nil, Nat.reduceAdd] at c48b3); obtain rfl := Option.some.inj H; (try go_wp2); have n0_ := Aside0.mk (below_drew1 HB.out); clear HB; have HB := n0_; clear n0_; refine start_ (n := 11) (S := fun w' => True) (ds := []) #[false, false, false, false, false, false, false, false, false, false, false] (by kernel_rfl) rfl rfl trivial (fun hHeld => ?_); refine with_tabW point_general.tab11 point_general.bits11 (fun HT_ HW_ => ?_); generalize wc.drew = w49 at HB hHeld ⊢; refine pure_ (i := 0) (N := some 58) (v := ?_) (a' := ?_) #[true, false, false, false, false, false, false, false, false, false, false] rfl rfl (any_of HT_.out (by kernel_rfl)) (fun _ _ _ h => h) (Or.inl ⟨by rfl, ?_⟩) ?_ ?_; rotate_left
                      · intro w'
                        go_simp
                        with_reducible rfl
                      rotate_left
                      · simp only [Act.put, List.setIfInBounds_toArray, List.set_cons_zero, List.set_cons_succ, i64_w, i32_w]
                        rfl
                      refine pure_ (i := 1) (N := some 59) (v := ?_) (a' := ?_) #[true, true, false, false, false, false, false, false, false, false, false] rfl rfl (any_of HT_.out (by kernel_rfl)) (fun _ _ _ h => h) (Or.inl ⟨by rfl, ?_⟩) ?_ ?_; rotate_left
                      · intro w'
                        go_simp
                        with_reducible rfl
                      rotate_left
                      · simp only [Act.put, List.setIfInBounds_toArray, List.set_cons_zero, List.set_cons_succ, i64_w, i32_w]
                        rfl
                      refine pure_ (i := 2) (N := some 60) (v := ?_) (a' := ?_) #[true, true, true, false, false, false, false, false, false, false, false] rfl rfl (any_of HT_.out (by kernel_rfl)) (fun _ _ _ h => h) (Or.inl ⟨by rfl, ?_⟩) ?_ ?_; rotate_left
                      · intro w'
                        go_simp
                        with_reducible rfl
                      rotate_left
                      · simp only [Act.put, List.setIfInBounds_toArray, List.set_cons_zero, List.set_cons_succ, i64_w, i32_w]
                        rfl
                      refine pure_ (i := 3) (N := some 61) (v := ?_) (a' := ?_) #[true, true, true, true, false, false, false, false, false, false, false] rfl rfl (any_of HT_.out (by kernel_rfl)) (fun _ _ _ h => h) (Or.inl ⟨by rfl, ?_⟩) ?_ ?_; rotate_left
                      · intro w'
                        go_simp
                        with_reducible rfl
                      rotate_left
                      · simp only [Act.put, List.setIfInBounds_toArray, List.set_cons_zero, List.set_cons_succ, i64_w, i32_w]
                        rfl
                      refine pure_ (i := 4) (N := some 62) (v := ?_) (a' := ?_) #[true, true, true, true, true, false, false, false, false, false, false] rfl rfl (any_of HT_.out (by kernel_rfl)) (fun _ _ _ h => h) (Or.inl ⟨by rfl, ?_⟩) ?_ ?_; rotate_left
                      · intro w'
                        go_simp
                        with_reducible rfl
                      rotate_left
                      · simp only [Act.put, List.setIfInBounds_toArray, List.set_cons_zero, List.set_cons_succ, i64_w, i32_w]
                        rfl
                      refine pure_ (i := 5) (N := some 63) (v := ?_) (a' := ?_) #[true, true, true, true, true, true, false, false, false, false, false] rfl rfl (any_of HT_.out (by kernel_rfl)) (fun _ _ _ h => h) (Or.inl ⟨by rfl, ?_⟩) ?_ ?_; rotate_left
                      · intro w'
                        go_simp
                        with_reducible rfl
                      rotate_left
                      · simp only [Act.put, List.setIfInBounds_toArray, List.set_cons_zero, List.set_cons_succ, i64_w, i32_w]
                        rfl
                      refine pure_ (i := 6) (N := some 64) (v := ?_) (a' := ?_) #[true, true, true, true, true, true, true, false, false, false, false] rfl rfl (any_of HT_.out (by kernel_rfl)) (fun _ _ _ h => h) (Or.inl ⟨by rfl, ?_⟩) ?_ ?_; rotate_left
                      · intro w'
                        go_simp
                        with_reducible rfl
                      rotate_left
                      · simp only [Act.put, List.setIfInBounds_toArray, List.set_cons_zero, List.set_cons_succ, i64_w, i32_w]
                        rfl
                      refine pure_ (i := 7) (N := some 65) (v := ?_) (a' := ?_) #[true, true, true, true, true, true, true, true, false, false, false] rfl rfl (any_of HT_.out (by kernel_rfl)) (fun _ _ _ h => h) (Or.inl ⟨by rfl, ?_⟩) ?_ ?_; rotate_left
                      · intro w'
                        go_simp
                        with_reducible rfl
                      rotate_left
                      · simp only [Act.put, List.setIfInBounds_toArray, List.set_cons_zero, List.set_cons_succ, i64_w, i32_w]
                        rfl
                      refine one_ (i := 8) (N := some 66) #[true, true, true, true, true, true, true, true, true, false, false] rfl rfl (one_of HT_.out (by kernel_rfl)) (by decide) (fun K hK => ?_); refine goes_ Tryz.func86 (by kernel_rfl) rfl #[.int .i64 t292, .int .u8 a2] (by rfl) rfl rfl (by exact pz4) ?_; with_reducible refine (point_tail.calls t292 a2 t298 _ A46.out).mono ?_
                      rintro e w50 ⟨rfl, hb⟩; refine ⟨_, rfl, ?_⟩; have n0_ := Aside0.mk (below_step (by exact pz1) hb); clear HB; have HB := n0_; clear n0_; (try clear hb)
                      refine hK.out _ _ trivial (fun hHeld => ?_); clear hK K; refine norm_ (a' := ?_) ?_ ?_; rotate_left
                      · show Act.put _ (some 66) _ = _
                        simp only [Act.put, List.setIfInBounds_toArray, List.set_cons_zero, List.set_cons_succ, i64_w, i32_w]; rfl
                      refine pure_ (i := 9) (N := some 12) (v := ?_) (a' := ?_) #[true, true, true, true, true, true, true, true, true, true, false] rfl rfl (any_of HT_.out (by kernel_rfl)) (fun _ _ _ h => h) (Or.inl ⟨by rfl, ?_⟩) ?_ ?_; rotate_left
                      · intro w'
                        go_simp
                        with_reducible rfl
                      rotate_left
                      · simp only [Act.put, List.setIfInBounds_toArray, List.set_cons_zero, List.set_cons_succ, i64_w, i32_w]
                        rfl
                      refine pure_ (i := 10) (N := some 13) (v := ?_) (a' := ?_) #[true, true, true, true, true, true, true, true, true, true, true] rfl rfl (any_of HT_.out (by kernel_rfl)) (fun _ _ _ h => h) (Or.inl ⟨by rfl, ?_⟩) ?_ ?_; rotate_left
                      · intro w'
                        go_simp
                        with_reducible rfl
                      rotate_left
                      · simp only [Act.put, List.setIfInBounds_toArray, List.set_cons_zero, List.set_cons_succ, i64_w, i32_w]
                        rfl
                      refine done_ (done_of HT_.out (by kernel_rfl)) ?_; (try go_wp2); go_ret; exact ⟨by exact pz2, by exact pz1⟩
                    rw [if_neg c48] at H; exact absurd H (by simp)
                  replace c47 := Bool.eq_false_iff.mpr c47; subst c47; rw [if_neg (show ¬ (false = true) by decide)] at H; replace H := Option.bind_eq_some_iff.mp H; obtain ⟨t299, A510, H⟩ := H; (try dsimp only at H); have A51 := Aside0.mk A510; clear A510; by_cases c52 : t299.size + t298.size ≤ 9223372036854775807
                  · rw [if_pos c52] at H
                    have c52b0 := eq_true c52; have c52b1 := decide_eq_true c52; (try have c52b2 : (9223372036854775807 < t299.size + t298.size) = False := eq_false (Nat.not_lt.2 c52)); (try have c52b3 := c52b2); (try simp only [ByteArray.size_append, size_lit, List.size_toArray, List.length_cons, List.length_nil, Nat.reduceAdd] at c52b3); obtain rfl := Option.some.inj H; (try go_wp2); have n0_ := Aside0.mk (below_drew1 HB.out); clear HB; have HB := n0_; clear n0_; refine start_ (n := 11) (S := fun w' => True) (ds := []) #[false, false, false, false, false, false, false, false, false, false, false] (by kernel_rfl) rfl rfl trivial (fun hHeld => ?_); refine with_tabW point_general.tab11 point_general.bits11 (fun HT_ HW_ => ?_); generalize wc.drew = w53 at HB hHeld ⊢; refine pure_ (i := 0) (N := some 58) (v := ?_) (a' := ?_) #[true, false, false, false, false, false, false, false, false, false, false] rfl rfl (any_of HT_.out (by kernel_rfl)) (fun _ _ _ h => h) (Or.inl ⟨by rfl, ?_⟩) ?_ ?_; rotate_left
                    · intro w'
                      go_simp
                      with_reducible rfl
                    rotate_left
                    · simp only [Act.put, List.setIfInBounds_toArray, List.set_cons_zero, List.set_cons_succ, i64_w, i32_w]
                      rfl
                    refine pure_ (i := 1) (N := some 59) (v := ?_) (a' := ?_) #[true, true, false, false, false, false, false, false, false, false, false] rfl rfl (any_of HT_.out (by kernel_rfl)) (fun _ _ _ h => h) (Or.inl ⟨by rfl, ?_⟩) ?_ ?_; rotate_left
                    · intro w'
                      go_simp
                      with_reducible rfl
                    rotate_left
                    · simp only [Act.put, List.setIfInBounds_toArray, List.set_cons_zero, List.set_cons_succ, i64_w, i32_w]
                      rfl
                    refine pure_ (i := 2) (N := some 60) (v := ?_) (a' := ?_) #[true, true, true, false, false, false, false, false, false, false, false] rfl rfl (any_of HT_.out (by kernel_rfl)) (fun _ _ _ h => h) (Or.inl ⟨by rfl, ?_⟩) ?_ ?_; rotate_left
                    · intro w'
                      go_simp
                      with_reducible rfl
                    rotate_left
                    · simp only [Act.put, List.setIfInBounds_toArray, List.set_cons_zero, List.set_cons_succ, i64_w, i32_w]
                      rfl
                    refine pure_ (i := 3) (N := some 61) (v := ?_) (a' := ?_) #[true, true, true, true, false, false, false, false, false, false, false] rfl rfl (any_of HT_.out (by kernel_rfl)) (fun _ _ _ h => h) (Or.inl ⟨by rfl, ?_⟩) ?_ ?_; rotate_left
                    · intro w'
                      go_simp
                      with_reducible rfl
                    rotate_left
                    · simp only [Act.put, List.setIfInBounds_toArray, List.set_cons_zero, List.set_cons_succ, i64_w, i32_w]
                      rfl
                    refine pure_ (i := 4) (N := some 62) (v := ?_) (a' := ?_) #[true, true, true, true, true, false, false, false, false, false, false] rfl rfl (any_of HT_.out (by kernel_rfl)) (fun _ _ _ h => h) (Or.inl ⟨by rfl, ?_⟩) ?_ ?_; rotate_left
                    · intro w'
                      go_simp
                      with_reducible rfl
                    rotate_left
                    · simp only [Act.put, List.setIfInBounds_toArray, List.set_cons_zero, List.set_cons_succ, i64_w, i32_w]
                      rfl
                    refine pure_ (i := 5) (N := some 63) (v := ?_) (a' := ?_) #[true, true, true, true, true, true, false, false, false, false, false] rfl rfl (any_of HT_.out (by kernel_rfl)) (fun _ _ _ h => h) (Or.inl ⟨by rfl, ?_⟩) ?_ ?_; rotate_left
                    · intro w'
                      go_simp
                      with_reducible rfl
                    rotate_left
                    · simp only [Act.put, List.setIfInBounds_toArray, List.set_cons_zero, List.set_cons_succ, i64_w, i32_w]
                      rfl
                    refine pure_ (i := 6) (N := some 64) (v := ?_) (a' := ?_) #[true, true, true, true, true, true, true, false, false, false, false] rfl rfl (any_of HT_.out (by kernel_rfl)) (fun _ _ _ h => h) (Or.inl ⟨by rfl, ?_⟩) ?_ ?_; rotate_left
                    · intro w'
                      go_simp
                      with_reducible rfl
                    rotate_left
                    · simp only [Act.put, List.setIfInBounds_toArray, List.set_cons_zero, List.set_cons_succ, i64_w, i32_w]
                      rfl
                    refine pure_ (i := 7) (N := some 65) (v := ?_) (a' := ?_) #[true, true, true, true, true, true, true, true, false, false, false] rfl rfl (any_of HT_.out (by kernel_rfl)) (fun _ _ _ h => h) (Or.inl ⟨by rfl, ?_⟩) ?_ ?_; rotate_left
                    · intro w'
                      go_simp
                      with_reducible rfl
                    rotate_left
                    · simp only [Act.put, List.setIfInBounds_toArray, List.set_cons_zero, List.set_cons_succ, i64_w, i32_w]
                      rfl
                    refine one_ (i := 8) (N := some 66) #[true, true, true, true, true, true, true, true, true, false, false] rfl rfl (one_of HT_.out (by kernel_rfl)) (by decide) (fun K hK => ?_); refine goes_ Tryz.func86 (by kernel_rfl) rfl #[.int .i64 t292, .int .u8 a2] (by rfl) rfl rfl (by exact pz4) ?_; with_reducible refine (point_tail.calls t292 a2 t298 _ A46.out).mono ?_
                    rintro e w54 ⟨rfl, hb⟩; refine ⟨_, rfl, ?_⟩; have n0_ := Aside0.mk (below_step (by exact pz1) hb); clear HB; have HB := n0_; clear n0_; (try clear hb)
                    refine hK.out _ _ trivial (fun hHeld => ?_); clear hK K; refine norm_ (a' := ?_) ?_ ?_; rotate_left
                    · show Act.put _ (some 66) _ = _
                      simp only [Act.put, List.setIfInBounds_toArray, List.set_cons_zero, List.set_cons_succ, i64_w, i32_w]; rfl
                    refine pure_ (i := 9) (N := some 12) (v := ?_) (a' := ?_) #[true, true, true, true, true, true, true, true, true, true, false] rfl rfl (any_of HT_.out (by kernel_rfl)) (fun _ _ _ h => h) (Or.inl ⟨by rfl, ?_⟩) ?_ ?_; rotate_left
                    · intro w'
                      go_simp
                      with_reducible rfl
                    rotate_left
                    · simp only [Act.put, List.setIfInBounds_toArray, List.set_cons_zero, List.set_cons_succ, i64_w, i32_w]
                      rfl
                    refine pure_ (i := 10) (N := some 13) (v := ?_) (a' := ?_) #[true, true, true, true, true, true, true, true, true, true, true] rfl rfl (any_of HT_.out (by kernel_rfl)) (fun _ _ _ h => h) (Or.inl ⟨by rfl, ?_⟩) ?_ ?_; rotate_left
                    · intro w'
                      go_simp
                      with_reducible rfl
                    rotate_left
                    · simp only [Act.put, List.setIfInBounds_toArray, List.set_cons_zero, List.set_cons_succ, i64_w, i32_w]
                      rfl
                    refine done_ (done_of HT_.out (by kernel_rfl)) ?_; (try go_wp2_with (first | ((with_reducible refine gate_callee (f := 87) rfl ?_); refine goesL_ (some 72) rfl rfl Tryz.func87 (by kernel_rfl) rfl #[.string (((t291.extract 0 1) ++ (⟨#[46]⟩ : ByteArray)) ++ (t291.extract 1 t291.size))] rfl (by exact pz4) ?_; (with_reducible refine (point_strip.calls (((t291.extract 0 1) ++ (⟨#[46]⟩ : ByteArray)) ++ (t291.extract 1 t291.size)) t299 _ A51.out).mono ?_); rintro e w' ⟨rfl, ⟨nd, rfl⟩⟩; refine ⟨_, rfl, ?_⟩))); go_ret; exact ⟨by exact pz2, by exact pz1⟩
                  rw [if_neg c52] at H; exact absurd H (by simp)
                rw [if_neg c45] at H; exact absurd H (by simp)
              rw [if_neg c43] at H; exact absurd H (by simp)
            rw [if_neg c42] at H; exact absurd H (by simp)
          rw [if_neg c41] at H; exact absurd H (by simp)

end Go.Proofs.YtgbjojokjekmhaaGreatDoor.PXC
