/- The machine's side of a law, printed by a program of this session out of the translation; conditions: none. -/
import Derived.Test.YtlklnenlhmhcaaaPRecordWordsx0
import Derived.Test.YtlklnenlhmhcaaaPRecordWordsx1
namespace Go.Proofs.Ytlklnenlhmhcaaa.PRecordWords
open Go.RowKit Go.Proofs.YtlklnenlhmhcaaaW.PrintWords Go.Proofs.YtlklnenlhmhcaaaW.PrintLast Go.Proofs.YtlklnenlhmhcaaaW.PrintMore
attribute [local go_sem] max2_int min2_int max_two min_two max_three min_three max_four min_four   -- for this text's walks alone
set_option linter.unusedVariables false
set_option linter.unusedSimpArgs false

/-! ### abacuslaw21_RecordWords: function 3 -/
mutual
def abacuslaw21_RecordWords.j0 : Nat → ByteArray → Bool → Option (Bool)
  | 0, _, _ => none
  | k + 1, x0, x25 => if x25 = true then (some false) else ((record_Fields.f x0 (⟨#[32]⟩ : ByteArray)).bind fun t122 => (if (t122.length : Int) ≥ 32768 then (some ((t122.length : Int) == 32768)) else (abacuslaw21_RecordWords.l0 k x0 t122 (([] : List Int)) 0 0)))
def abacuslaw21_RecordWords.l0 : Nat → ByteArray → List ByteArray → List Int → Int → Int → Option (Bool)
  | 0, _, _, _, _, _ => none
  | k + 1, x0, x3, x4, x5, x6 => if x6 < (x0.size : Int) then (if 0 ≤ x6 then ((scan_Blank.f (bt x0 x6)).bind fun t128 => (if t128 = true then (abacuslaw21_RecordWords.l0 k x0 x3 x4 x5 (wrap64 (x6 + 1))) else (if x4.length < 140737488355328 then ((some (x4 ++ [bt x0 x6] : List Int)).bind fun y129 => (if x6 = 0 then (abacuslaw21_RecordWords.l0 k x0 x3 y129 (wrap64 (x5 + 1)) (wrap64 (x6 + 1))) else (if 0 ≤ (wrap64 (x6 - 1)) then (if (wrap64 (x6 - 1)) < (x0.size : Int) then ((scan_Blank.f (bt x0 (wrap64 (x6 - 1)))).bind fun t132 => (if t132 = true then (abacuslaw21_RecordWords.l0 k x0 x3 y129 (wrap64 (x5 + 1)) (wrap64 (x6 + 1))) else (abacuslaw21_RecordWords.l0 k x0 x3 y129 x5 (wrap64 (x6 + 1))))) else (none)) else (none)))) else (none)))) else (none)) else ((abacuslaw21_joined.f k x3 (⟨#[]⟩ : ByteArray)).bind fun t133 => (if t133.toList = (strOfNums x4).toList then (abacuslaw21_RecordWords.j2 k x0 x3 ((x3.length : Int) != x5)) else (abacuslaw21_RecordWords.j2 k x0 x3 true)))
def abacuslaw21_RecordWords.j2 : Nat → ByteArray → List ByteArray → Bool → Option (Bool)
  | 0, _, _, _ => none
  | k + 1, x0, x3, x72 => if x72 = true then (some false) else (abacuslaw21_RecordWords.l1 k x0 x3 0)
def abacuslaw21_RecordWords.l1 : Nat → ByteArray → List ByteArray → Int → Option (Bool)
  | 0, _, _, _ => none
  | k + 1, x0, x3, x7 => if x7 < (x3.length : Int) then (if 0 ≤ x7 then (if (rdOf ByteArray.empty x3 x7).toList = ([] : List UInt8) then (some false) else (abacuslaw21_RecordWords.l2 k x0 x3 x7 0)) else (none)) else (if 3 + x0.size ≤ 9223372036854775807 then (if ((⟨#[32, 9, 13]⟩ : ByteArray) ++ x0).size + 4 ≤ 9223372036854775807 then ((record_Fields.f (((⟨#[32, 9, 13]⟩ : ByteArray) ++ x0) ++ (⟨#[11, 12, 10, 32]⟩ : ByteArray)) (⟨#[32]⟩ : ByteArray)).bind fun t134 => ((abacuslaw21_sameTexts.f k x3 t134).bind fun t137 => (some t137))) else (none)) else (none))
def abacuslaw21_RecordWords.l2 : Nat → ByteArray → List ByteArray → Int → Int → Option (Bool)
  | 0, _, _, _, _ => none
  | k + 1, x0, x3, x7, x8 => if 0 ≤ x7 then (if x7 < (x3.length : Int) then (if x8 < ((rdOf ByteArray.empty x3 x7).size : Int) then (if 0 ≤ x8 then ((scan_Blank.f (bt (rdOf ByteArray.empty x3 x7) x8)).bind fun t141 => (if t141 = true then (some false) else (abacuslaw21_RecordWords.l2 k x0 x3 x7 (wrap64 (x8 + 1))))) else (none)) else (abacuslaw21_RecordWords.l1 k x0 x3 (wrap64 (x7 + 1)))) else (none)) else (none)
end
def abacuslaw21_RecordWords.f (k : Nat) (a0 : ByteArray) : Option (Bool) := (record_Fields.f (⟨#[32, 32, 97, 32, 98, 9, 10, 99, 32]⟩ : ByteArray) (⟨#[32]⟩ : ByteArray)).bind fun t117 => (if (t117.length : Int) = 3 then (if 0 < (t117.length : Int) then (if (rdOf ByteArray.empty t117 0).toList = ([97] : List UInt8) then (if 2 < (t117.length : Int) then (abacuslaw21_RecordWords.j0 k a0 ((rdOf ByteArray.empty t117 2).toList != ([99] : List UInt8))) else (none)) else (abacuslaw21_RecordWords.j0 k a0 true)) else (none)) else (abacuslaw21_RecordWords.j0 k a0 true))
theorem abacuslaw21_RecordWords.mono_l : ∀ k, (∀ y0 y1, LeO (abacuslaw21_RecordWords.j0 k y0 y1) (abacuslaw21_RecordWords.j0 (k + 1) y0 y1)) ∧ (∀ y0 y1 y2 y3 y4, LeO (abacuslaw21_RecordWords.l0 k y0 y1 y2 y3 y4) (abacuslaw21_RecordWords.l0 (k + 1) y0 y1 y2 y3 y4)) ∧ (∀ y0 y1 y2, LeO (abacuslaw21_RecordWords.j2 k y0 y1 y2) (abacuslaw21_RecordWords.j2 (k + 1) y0 y1 y2)) ∧ (∀ y0 y1 y2, LeO (abacuslaw21_RecordWords.l1 k y0 y1 y2) (abacuslaw21_RecordWords.l1 (k + 1) y0 y1 y2)) ∧ (∀ y0 y1 y2 y3, LeO (abacuslaw21_RecordWords.l2 k y0 y1 y2 y3) (abacuslaw21_RecordWords.l2 (k + 1) y0 y1 y2 y3))
  | 0 => ⟨fun _ _ r h => by simp [abacuslaw21_RecordWords.j0] at h, fun _ _ _ _ _ r h => by simp [abacuslaw21_RecordWords.l0] at h, fun _ _ _ r h => by simp [abacuslaw21_RecordWords.j2] at h, fun _ _ _ r h => by simp [abacuslaw21_RecordWords.l1] at h, fun _ _ _ _ r h => by simp [abacuslaw21_RecordWords.l2] at h⟩
  | k + 1 => by
    obtain ⟨ih0, ih1, ih2, ih3, ih4⟩ := abacuslaw21_RecordWords.mono_l k
    refine ⟨?_, ?_, ?_, ?_, ?_⟩
    · intro y0 y1
      unfold abacuslaw21_RecordWords.j0
      repeat' first
      | (with_reducible exact ih0 _ _)
      | (with_reducible exact ih1 _ _ _ _ _)
      | (with_reducible exact ih2 _ _ _)
      | (with_reducible exact ih3 _ _ _)
      | (with_reducible exact ih4 _ _ _ _)
      | (with_reducible exact abacuslaw21_joined.mono _ _ _)
      | (with_reducible exact abacuslaw21_sameTexts.mono _ _ _)
      | (with_reducible exact LeO.refl _)
      | (with_reducible exact LeO.none _)
      | (with_reducible refine LeO.ite ?_ ?_)
      | (with_reducible refine LeO.bind ?_ (fun _ => ?_))
      | exact ih0 _ _
      | exact ih1 _ _ _ _ _
      | exact ih2 _ _ _
      | exact ih3 _ _ _
      | exact ih4 _ _ _ _
      | exact abacuslaw21_joined.mono _ _ _
      | exact abacuslaw21_sameTexts.mono _ _ _
      | exact LeO.none _
      | refine LeO.ite ?_ ?_
      | refine LeO.bind ?_ (fun _ => ?_)
    · intro y0 y1 y2 y3 y4
      unfold abacuslaw21_RecordWords.l0
      repeat' first
      | (with_reducible exact ih0 _ _)
      | (with_reducible exact ih1 _ _ _ _ _)
      | (with_reducible exact ih2 _ _ _)
      | (with_reducible exact ih3 _ _ _)
      | (with_reducible exact ih4 _ _ _ _)
      | (with_reducible exact abacuslaw21_joined.mono _ _ _)
      | (with_reducible exact abacuslaw21_sameTexts.mono _ _ _)
      | (with_reducible exact LeO.refl _)
      | (with_reducible exact LeO.none _)
      | (with_reducible refine LeO.ite ?_ ?_)
      | (with_reducible refine LeO.bind ?_ (fun _ => ?_))
      | exact ih0 _ _
      | exact ih1 _ _ _ _ _
      | exact ih2 _ _ _
      | exact ih3 _ _ _
      | exact ih4 _ _ _ _
      | exact abacuslaw21_joined.mono _ _ _
      | exact abacuslaw21_sameTexts.mono _ _ _
      | exact LeO.none _
      | refine LeO.ite ?_ ?_
      | refine LeO.bind ?_ (fun _ => ?_)
    · intro y0 y1 y2
      unfold abacuslaw21_RecordWords.j2
      repeat' first
      | (with_reducible exact ih0 _ _)
      | (with_reducible exact ih1 _ _ _ _ _)
      | (with_reducible exact ih2 _ _ _)
      | (with_reducible exact ih3 _ _ _)
      | (with_reducible exact ih4 _ _ _ _)
      | (with_reducible exact abacuslaw21_joined.mono _ _ _)
      | (with_reducible exact abacuslaw21_sameTexts.mono _ _ _)
      | (with_reducible exact LeO.refl _)
      | (with_reducible exact LeO.none _)
      | (with_reducible refine LeO.ite ?_ ?_)
      | (with_reducible refine LeO.bind ?_ (fun _ => ?_))
      | exact ih0 _ _
      | exact ih1 _ _ _ _ _
      | exact ih2 _ _ _
      | exact ih3 _ _ _
      | exact ih4 _ _ _ _
      | exact abacuslaw21_joined.mono _ _ _
      | exact abacuslaw21_sameTexts.mono _ _ _
      | exact LeO.none _
      | refine LeO.ite ?_ ?_
      | refine LeO.bind ?_ (fun _ => ?_)
    · intro y0 y1 y2
      unfold abacuslaw21_RecordWords.l1
      repeat' first
      | (with_reducible exact ih0 _ _)
      | (with_reducible exact ih1 _ _ _ _ _)
      | (with_reducible exact ih2 _ _ _)
      | (with_reducible exact ih3 _ _ _)
      | (with_reducible exact ih4 _ _ _ _)
      | (with_reducible exact abacuslaw21_joined.mono _ _ _)
      | (with_reducible exact abacuslaw21_sameTexts.mono _ _ _)
      | (with_reducible exact LeO.refl _)
      | (with_reducible exact LeO.none _)
      | (with_reducible refine LeO.ite ?_ ?_)
      | (with_reducible refine LeO.bind ?_ (fun _ => ?_))
      | exact ih0 _ _
      | exact ih1 _ _ _ _ _
      | exact ih2 _ _ _
      | exact ih3 _ _ _
      | exact ih4 _ _ _ _
      | exact abacuslaw21_joined.mono _ _ _
      | exact abacuslaw21_sameTexts.mono _ _ _
      | exact LeO.none _
      | refine LeO.ite ?_ ?_
      | refine LeO.bind ?_ (fun _ => ?_)
    · intro y0 y1 y2 y3
      unfold abacuslaw21_RecordWords.l2
      repeat' first
      | (with_reducible exact ih0 _ _)
      | (with_reducible exact ih1 _ _ _ _ _)
      | (with_reducible exact ih2 _ _ _)
      | (with_reducible exact ih3 _ _ _)
      | (with_reducible exact ih4 _ _ _ _)
      | (with_reducible exact abacuslaw21_joined.mono _ _ _)
      | (with_reducible exact abacuslaw21_sameTexts.mono _ _ _)
      | (with_reducible exact LeO.refl _)
      | (with_reducible exact LeO.none _)
      | (with_reducible refine LeO.ite ?_ ?_)
      | (with_reducible refine LeO.bind ?_ (fun _ => ?_))
      | exact ih0 _ _
      | exact ih1 _ _ _ _ _
      | exact ih2 _ _ _
      | exact ih3 _ _ _
      | exact ih4 _ _ _ _
      | exact abacuslaw21_joined.mono _ _ _
      | exact abacuslaw21_sameTexts.mono _ _ _
      | exact LeO.none _
      | refine LeO.ite ?_ ?_
      | refine LeO.bind ?_ (fun _ => ?_)
theorem abacuslaw21_RecordWords.mono : ∀ a0 k, LeO (abacuslaw21_RecordWords.f k a0) (abacuslaw21_RecordWords.f (k + 1) a0) := by
  intro a0 k
  obtain ⟨ih0, ih1, ih2, ih3, ih4⟩ := abacuslaw21_RecordWords.mono_l k
  unfold abacuslaw21_RecordWords.f
  repeat' first
      | (with_reducible exact ih0 _ _)
      | (with_reducible exact ih1 _ _ _ _ _)
      | (with_reducible exact ih2 _ _ _)
      | (with_reducible exact ih3 _ _ _)
      | (with_reducible exact ih4 _ _ _ _)
      | (with_reducible exact abacuslaw21_joined.mono _ _ _)
      | (with_reducible exact abacuslaw21_sameTexts.mono _ _ _)
      | (with_reducible exact LeO.refl _)
      | (with_reducible exact LeO.none _)
      | (with_reducible refine LeO.ite ?_ ?_)
      | (with_reducible refine LeO.bind ?_ (fun _ => ?_))
      | exact ih0 _ _
      | exact ih1 _ _ _ _ _
      | exact ih2 _ _ _
      | exact ih3 _ _ _
      | exact ih4 _ _ _ _
      | exact abacuslaw21_joined.mono _ _ _
      | exact abacuslaw21_sameTexts.mono _ _ _
      | exact LeO.none _
      | refine LeO.ite ?_ ?_
      | refine LeO.bind ?_ (fun _ => ?_)
def abacuslaw21_RecordWords.T16 : Bool × List (List Nat × List Nat) := (true, [([], []), ([0], [0]), ([], []), ([2], [2]), ([1, 3], [1, 3]), ([4, 1], [4]), ([5], [5]), ([6, 5], [5, 6]), ([5], [5]), ([7, 8, 5], [5, 7, 8]), ([5, 9], [5, 9])])
def abacuslaw21_RecordWords.B16 : List Nat := [0, 1, 0, 4, 15, 31, 63, 127, 63, 511, 1023]
theorem abacuslaw21_RecordWords.tab16 : rtab .any (opsOf Try.f3 16) = abacuslaw21_RecordWords.T16 := by kernel_rfl
theorem abacuslaw21_RecordWords.bits16 : waitsOk abacuslaw21_RecordWords.T16.2 abacuslaw21_RecordWords.B16 = true := by kernel_rfl
set_option maxHeartbeats 8000000 in
set_option maxRecDepth 100000 in
theorem abacuslaw21_RecordWords.calls (k : Nat) (a0 : ByteArray) (r : Bool) (w : World) (h : abacuslaw21_RecordWords.f k a0 = some r) :
    Calls Try.prog 3 #[.string a0] w fun e w' => e = .returned (.bool r) ∧ Below w.heap.size w w' := by
  have HB := Aside0.mk (Below.refl w.heap.size w)
  have H : ((record_Fields.f (⟨#[32, 32, 97, 32, 98, 9, 10, 99, 32]⟩ : ByteArray) (⟨#[32]⟩ : ByteArray)).bind fun t117 => (if (t117.length : Int) = 3 then (if 0 < (t117.length : Int) then (if (rdOf ByteArray.empty t117 0).toList = ([97] : List UInt8) then (if 2 < (t117.length : Int) then (abacuslaw21_RecordWords.j0 k a0 ((rdOf ByteArray.empty t117 2).toList != ([99] : List UInt8))) else (none)) else (abacuslaw21_RecordWords.j0 k a0 true)) else (none)) else (abacuslaw21_RecordWords.j0 k a0 true))) = some r := h
  clear h
  replace H := Option.bind_eq_some_iff.mp H
  obtain ⟨t117, A20, H⟩ := H
  replace H : (if (t117.length : Int) = 3 then (if 0 < (t117.length : Int) then (if (rdOf ByteArray.empty t117 0).toList = ([97] : List UInt8) then (if 2 < (t117.length : Int) then (abacuslaw21_RecordWords.j0 k a0 ((rdOf ByteArray.empty t117 2).toList != ([99] : List UInt8))) else (none)) else (abacuslaw21_RecordWords.j0 k a0 true)) else (none)) else (abacuslaw21_RecordWords.j0 k a0 true)) = some r := H
  have A2 := Aside0.mk A20
  clear A20
  have HC3 := Aside0.mk H
  clear H
  go_enter Try.func3, Try.ntmps3
  go_upto_region 2 with (first | ((with_reducible refine gate_callee (f := 4) rfl ?_); refine goesL_ (some 10) rfl rfl Try.func4 (by kernel_rfl) rfl #[.string (⟨#[32, 32, 97, 32, 98, 9, 10, 99, 32]⟩ : ByteArray), .string (⟨#[32]⟩ : ByteArray)] rfl (by (try simp only [List.map_toArray, List.map_cons, List.map_nil]); first | done | rfl | (simp only [List.length_drop, List.length_take]; rfl)) ?_; (with_reducible refine (record_Fields.calls (⟨#[32, 32, 97, 32, 98, 9, 10, 99, 32]⟩ : ByteArray) (⟨#[32]⟩ : ByteArray) t117 _ A2.out).mono ?_); rintro e w4 ⟨v118, rfl, ho0, hb⟩; refine ⟨_, rfl, ?_⟩; have n0_ := Aside0.mk (Kd.R_lower ho0 (below_size (by repeat (first | (with_reducible first | exact HB.out | apply below_alloc | apply pw_below_drewN | apply below_drew1) | exact HB.out)))); have n1_ := Aside0.mk (below_step (by repeat (first | (with_reducible first | exact HB.out | apply below_alloc | apply pw_below_drewN | apply below_drew1) | exact HB.out)) hb); clear HB; have HO119 := n0_; have HB := n1_; clear n0_ n1_; (try clear hb); (try clear hb2); (try clear hk); (try clear hi); (try clear ho0)))
  (try simp only [Act.put, List.setIfInBounds_toArray, List.set_cons_zero, List.set_cons_succ])
  go_cut [25] (fun v25 wc => ∃ (kq : Nat) (x25_2 : Bool), v25 = .bool x25_2 ∧ Aside0 (abacuslaw21_RecordWords.j0 kq a0 x25_2 = some r) ∧ Aside0 (kq ≤ k) ∧ Aside0 (Below w.heap.size w wc))
  case first =>
    have H := HC3.out
    clear HC3
    by_cases c5 : (t117.length : Int) = 3
    · rw [if_pos c5] at H
      have c5b0 : ((t117.length : Int) == 3) = true := beq_iff_eq.mpr c5
      have c5b1 : ((t117.length : Int) != 3) = false := bne_eq_false_iff_eq.mpr c5
      clear c5
      (first | rw [c5b0] | (simp only [i64_w, i32_w]; rw [c5b0]) | skip)
      by_cases c6 : 0 < (t117.length : Int)
      · rw [if_pos c6] at H
        have c6b0 : decide (0 < (t117.length : Int)) = true := decide_eq_true c6
        have c6b1 : decide (0 < t117.length) = true := decide_eq_true (by omega)
        clear c6
        by_cases c7 : (rdOf ByteArray.empty t117 0).toList = ([97] : List UInt8)
        · rw [if_pos c7] at H
          have c7b0 : ((rdOf ByteArray.empty t117 0).toList == ([97] : List UInt8)) = true := beq_iff_eq.mpr c7
          have c7b1 : ((rdOf ByteArray.empty t117 0).toList != ([97] : List UInt8)) = false := bne_eq_false_iff_eq.mpr c7
          clear c7
          by_cases c8 : 2 < (t117.length : Int)
          · rw [if_pos c8] at H
            have c8b0 : decide (2 < (t117.length : Int)) = true := decide_eq_true c8
            have c8b1 : decide (2 < t117.length) = true := decide_eq_true (by omega)
            clear c8
            have H' := Aside0.mk H
            clear H
            obtain ⟨Ao9, co9, eo9⟩ := Kd.R_slice HO119.out
            subst eo9
            have p120 : 0 ≤ (0 : Int) := (by omega)
            have q120 : 0 < (t117.length : Int) := of_decide_eq_true (by first | (with_reducible assumption) | assumption)
            obtain ⟨ad120, e120, hx120_0⟩ := Kd.at_string (Kd.R_reads' HO119.out).2.2 0 p120 q120
            cases e120
            have qi120 : (0 < t117.length) = True := eq_true (by omega)
            (try rw [show ((0 : Int)).toNat = 0 from rfl] at hx120_0)
            (try rw [Addr.add_zero'] at hx120_0)
            replace p120 := eq_true p120
            replace q120 := eq_true q120
            have p121 : 0 ≤ (2 : Int) := (by omega)
            have q121 : 2 < (t117.length : Int) := of_decide_eq_true (by first | (with_reducible assumption) | assumption)
            obtain ⟨ad121, e121, hx121_0⟩ := Kd.at_string (Kd.R_reads' HO119.out).2.2 2 p121 q121
            obtain rfl : ad120 = ad121 := (by injection e121)
            (try simp only [show (2 : Int).toNat = 2 from rfl, Nat.reduceMul, Nat.reduceEqDiff, Go.Addr.add, ↓reduceIte] at hx121_0)
            have qi121 : (2 < t117.length) = True := eq_true (by omega)
            (try rw [show ((2 : Int)).toNat = 2 from rfl] at hx121_0)
            replace p121 := eq_true p121
            replace q121 := eq_true q121
            go_wp2
            go_meet
            case rel => exact ⟨_, (((rdOf ByteArray.empty t117 2).toList != ([99] : List UInt8))), (by first | rfl | (simp; done) | (simp [*]; done)), H', ⟨by first | omega | exact Nat.le_refl _⟩, ⟨by repeat (first | (with_reducible first | exact HB.out | apply below_alloc | apply pw_below_drewN | apply below_drew1) | exact HB.out)⟩⟩
          · rw [if_neg c8] at H
            exact absurd H (by simp)
        · rw [if_neg c7] at H
          have c7b0 : ((rdOf ByteArray.empty t117 0).toList == ([97] : List UInt8)) = false := beq_eq_false_iff_ne.mpr c7
          have c7b1 : ((rdOf ByteArray.empty t117 0).toList != ([97] : List UInt8)) = true := bne_iff_ne.mpr c7
          have H' := Aside0.mk H
          clear H
          obtain ⟨Ao10, co10, eo10⟩ := Kd.R_slice HO119.out
          subst eo10
          have p120 : 0 ≤ (0 : Int) := (by omega)
          have q120 : 0 < (t117.length : Int) := of_decide_eq_true (by first | (with_reducible assumption) | assumption)
          obtain ⟨ad120, e120, hx120_0⟩ := Kd.at_string (Kd.R_reads' HO119.out).2.2 0 p120 q120
          cases e120
          have qi120 : (0 < t117.length) = True := eq_true (by omega)
          (try rw [show ((0 : Int)).toNat = 0 from rfl] at hx120_0)
          (try rw [Addr.add_zero'] at hx120_0)
          replace p120 := eq_true p120
          replace q120 := eq_true q120
          go_wp2
          go_meet
          case rel => exact ⟨_, (true), (by first | rfl | (simp; done) | (simp [*]; done)), H', ⟨by first | omega | exact Nat.le_refl _⟩, ⟨by repeat (first | (with_reducible first | exact HB.out | apply below_alloc | apply pw_below_drewN | apply below_drew1) | exact HB.out)⟩⟩
      · rw [if_neg c6] at H
        exact absurd H (by simp)
    · rw [if_neg c5] at H
      have c5b0 : ((t117.length : Int) == 3) = false := beq_eq_false_iff_ne.mpr c5
      have c5b1 : ((t117.length : Int) != 3) = true := bne_iff_ne.mpr c5
      (first | rw [c5b0] | (simp only [i64_w, i32_w]; rw [c5b0]) | skip)
      have H' := Aside0.mk H
      clear H
      obtain ⟨Ao11, co11, eo11⟩ := Kd.R_slice HO119.out
      subst eo11
      go_wp2
      go_meet
      case rel => exact ⟨_, (true), (by first | rfl | (simp; done) | (simp [*]; done)), H', ⟨by first | omega | exact Nat.le_refl _⟩, ⟨by repeat (first | (with_reducible first | exact HB.out | apply below_alloc | apply pw_below_drewN | apply below_drew1) | exact HB.out)⟩⟩
  case rest =>
    clear HC3
    try clear p1
    try clear q1
    try clear hx1
    try clear qi1
    try clear p2
    try clear c3
    try clear c4
    try clear c5
    try clear c5b0
    try clear c5b1
    try clear c6
    try clear c6b0
    try clear c6b1
    try clear c7
    try clear c7b0
    try clear c7b1
    try clear c8
    try clear c8b0
    try clear c8b1
    try clear hx120_0
    try clear hx121_0
    try clear p120
    try clear p121
    try clear q120
    try clear q121
    obtain ⟨kq, x25_2, rfl, HA, HJ2, HB⟩ := hcut
    cases kq with
    | zero => exact absurd HA.out (by simp [abacuslaw21_RecordWords.j0])
    | succ kj2 =>
      have H := HA.out
      clear HA
      simp only [abacuslaw21_RecordWords.j0] at H
      by_cases c12 : x25_2 = true
      · subst c12
        have H1 : (some false) = some r := by rw [if_pos rfl] at H; exact H
        clear H
        have H := H1
        clear H1
        obtain rfl := Option.some.inj H
        go_wp2
        go_ret
        exact ⟨by first | rfl | (simp [errW_none, errW_some] <;> rfl) | (simp [*, errW_none, errW_some] <;> rfl), by repeat (first | (with_reducible first | exact HB.out | apply below_alloc | apply pw_below_drewN | apply below_drew1) | exact HB.out)⟩
      · replace c12 := Bool.eq_false_iff.mpr c12
        subst c12
        have H1 : ((record_Fields.f a0 (⟨#[32]⟩ : ByteArray)).bind fun t122 => (if (t122.length : Int) ≥ 32768 then (some ((t122.length : Int) == 32768)) else (abacuslaw21_RecordWords.l0 kj2 a0 t122 (([] : List Int)) 0 0))) = some r := by rw [if_neg (show ¬ (false = true) by decide)] at H; exact H
        clear H
        have H := H1
        clear H1
        replace H := Option.bind_eq_some_iff.mp H
        obtain ⟨t122, A130, H⟩ := H
        replace H : (if (t122.length : Int) ≥ 32768 then (some ((t122.length : Int) == 32768)) else (abacuslaw21_RecordWords.l0 kj2 a0 t122 (([] : List Int)) 0 0)) = some r := H
        have A13 := Aside0.mk A130
        clear A130
        by_cases c14 : (t122.length : Int) ≥ 32768
        · rw [if_pos c14] at H
          have c14b0 : decide (32768 ≤ (t122.length : Int)) = true := decide_eq_true c14
          have c14b1 : decide (32768 ≤ t122.length) = true := decide_eq_true (by omega)
          clear c14
          obtain rfl := Option.some.inj H
          go_wp2_with (first | ((with_reducible refine gate_callee (f := 4) rfl ?_); refine goesL_ (some 27) rfl rfl Try.func4 (by kernel_rfl) rfl #[.string a0, .string (⟨#[32]⟩ : ByteArray)] rfl (by (try simp only [List.map_toArray, List.map_cons, List.map_nil]); first | done | rfl | (simp only [List.length_drop, List.length_take]; rfl)) ?_; (with_reducible refine (record_Fields.calls a0 (⟨#[32]⟩ : ByteArray) t122 _ A13.out).mono ?_); rintro e w15 ⟨v123, rfl, ho0, hb⟩; refine ⟨_, rfl, ?_⟩; have n0_ := Aside0.mk (Kd.R_lower ho0 (below_size (by repeat (first | (with_reducible first | exact HB.out | apply below_alloc | apply pw_below_drewN | apply below_drew1) | exact HB.out)))); have n1_ := Aside0.mk (below_step (by repeat (first | (with_reducible first | exact HB.out | apply below_alloc | apply pw_below_drewN | apply below_drew1) | exact HB.out)) hb); clear HB; have HO124 := n0_; have HB := n1_; clear n0_ n1_; (try clear hb); (try clear hb2); (try clear hk); (try clear hi); (try clear ho0); obtain ⟨Ao16, co16, eo16⟩ := Kd.R_slice HO124.out; subst eo16))
          go_ret
          exact ⟨by first | rfl | (simp [errW_none, errW_some] <;> rfl) | (simp [*, errW_none, errW_some] <;> rfl), by repeat (first | (with_reducible first | exact HB.out | apply below_alloc | apply pw_below_drewN | apply below_drew1) | exact HB.out)⟩
        · rw [if_neg c14] at H
          have c14b0 : decide (32768 ≤ (t122.length : Int)) = false := decide_eq_false c14
          have c14b1 : decide (32768 ≤ t122.length) = false := decide_eq_false (by omega)
          clear c14
          obtain ⟨y125, hy125⟩ : ∃ y_ : List Int, y_ = (([] : List Int)) := ⟨_, rfl⟩
          replace H : (abacuslaw21_RecordWords.l0 kj2 a0 t122 y125 0 0) = some r := by first | (rw [hy125]; with_reducible exact H) | (have H2_ := (Option.bind_some _ _).symm.trans H; rw [hy125]; with_reducible exact H2_) | (have H2_ := (Option.bind_some _ _).symm.trans H; with_reducible exact H2_) | with_reducible exact H | (rw [hy125]; exact H) | exact H
          have Ny125 := Aside0.mk hy125
          clear hy125
          have H' := Aside0.mk H
          clear H
          go_wp2_with (first | ((with_reducible refine gate_callee (f := 4) rfl ?_); refine goesL_ (some 27) rfl rfl Try.func4 (by kernel_rfl) rfl #[.string a0, .string (⟨#[32]⟩ : ByteArray)] rfl (by (try simp only [List.map_toArray, List.map_cons, List.map_nil]); first | done | rfl | (simp only [List.length_drop, List.length_take]; rfl)) ?_; (with_reducible refine (record_Fields.calls a0 (⟨#[32]⟩ : ByteArray) t122 _ A13.out).mono ?_); rintro e w17 ⟨v123, rfl, ho0, hb⟩; refine ⟨_, rfl, ?_⟩; have n0_ := Aside0.mk (Kd.R_lower ho0 (below_size (by repeat (first | (with_reducible first | exact HB.out | apply below_alloc | apply pw_below_drewN | apply below_drew1) | exact HB.out)))); have n1_ := Aside0.mk (below_step (by repeat (first | (with_reducible first | exact HB.out | apply below_alloc | apply pw_below_drewN | apply below_drew1) | exact HB.out)) hb); clear HB; have HO124 := n0_; have HB := n1_; clear n0_ n1_; (try clear hb); (try clear hb2); (try clear hk); (try clear hi); (try clear ho0); obtain ⟨Ao18, co18, eo18⟩ := Kd.R_slice HO124.out; subst eo18) | ((with_reducible refine gate_dst (N := 34) rfl ?_); (try (refine gate_guard (by rfl) ?_; dsimp only)); refine Kd.R_lit (Kd.int .u8) _ 5 ?hg (N := 34) ?hd (xs := ([] : List Int)) (inner := []) (ok := fun _ => True) (okp := fun _ => True) ?hr ?hp (fun _ hk => hk) trivial (Below.refl _ _) (Nat.le_refl _) (by simp) ?_; (case hd => rfl); (case hg => rfl); (case hr => first | (go_simp; done) | (go_simp; rfl)); (case hp => exact (Reps.none _ _)); intro v126 w19 ho20 hb hg_ hnew_; clear hg_ hnew_; (first | rw [← Ny125.out] at ho20 | (simp only [Int.reduceToNat] at ho20; rw [← Ny125.out] at ho20)); have n0_ := Aside0.mk (Kd.R_below (by (with_reducible repeat (first | apply Kd.R_alloc | apply Kd.R_drewN | apply Kd.R_drew)); exact HO124.out) hb); have n1_ := Aside0.mk (Kd.R_lower ho20 (below_size (by repeat (first | (with_reducible first | exact HB.out | apply below_alloc | apply pw_below_drewN | apply below_drew1) | exact HB.out)))); have n2_ := Aside0.mk (below_step (by repeat (first | (with_reducible first | exact HB.out | apply below_alloc | apply pw_below_drewN | apply below_drew1) | exact HB.out)) hb); clear HO124; clear HB; have HO124 := n0_; have HO127 := n1_; have HB := n2_; clear n0_ n1_ n2_; clear hb ho20))
          go_loopg [4, 5, 6] kj2 (fun kq v4 v5 v6 w' => ∃ (x4_2 : List Int) (x5_2 : Int) (x6_2 : Int), v5 = .int .i64 x5_2 ∧ v6 = .int .i64 x6_2 ∧ Aside0 (abacuslaw21_RecordWords.l0 kq a0 t122 x4_2 x5_2 x6_2 = some r) ∧ Aside0 (kq ≤ kj2) ∧ Aside0 (Kd.R Kd.string 9 w' w.heap.size (fun _ => True) (.slice Ao18 t122.length co18) t122) ∧ Aside0 (Kd.R (Kd.int .u8) 5 w' w.heap.size (fun _ => True) v4 x4_2) ∧ Aside0 (Below w.heap.size w w'))
          case atStart => exact ⟨(y125), (0), (0), (by first | rfl | (simp; done) | (simp [*]; done)), (by first | rfl | (simp; done) | (simp [*]; done)), H', ⟨Nat.le_refl _⟩, ⟨by (with_reducible repeat (first | apply Kd.R_alloc | apply Kd.R_drewN | apply Kd.R_drew)); exact HO124.out⟩, ⟨by (with_reducible repeat (first | apply Kd.R_alloc | apply Kd.R_drewN | apply Kd.R_drew)); exact HO127.out⟩, ⟨by repeat (first | (with_reducible first | exact HB.out | apply below_alloc | apply pw_below_drewN | apply below_drew1) | exact HB.out)⟩⟩
          case round =>
            clear H'
            try clear c1
            try clear p1
            try clear q1
            try clear hx1
            try clear qi1
            try clear p2
            try clear c3
            try clear c4
            try clear c5
            try clear c5b0
            try clear c5b1
            try clear c6
            try clear c6b0
            try clear c6b1
            try clear c7
            try clear c7b0
            try clear c7b1
            try clear c8
            try clear c8b0
            try clear c8b1
            try clear c12
            try clear p12
            try clear q12
            try clear hx12
            try clear qi12
            try clear c14
            try clear c14b0
            try clear c14b1
            try clear hx120_0
            try clear hx121_0
            try clear p1
            try clear p120
            try clear p121
            try clear p2
            try clear q1
            try clear q120
            try clear q121
            obtain ⟨x4_2, x5_2, x6_2, rfl, rfl, HA, HK2, HO_3, HO_4, HB⟩ := hrel
            cases gk with
            | zero => exact absurd HA.out (by simp [abacuslaw21_RecordWords.l0])
            | succ k2 =>
              have H := HA.out
              clear HA
              simp only [abacuslaw21_RecordWords.l0] at H
              by_cases c21 : x6_2 < (a0.size : Int)
              · rw [if_pos c21] at H
                have c21b0 : decide (x6_2 < (a0.size : Int)) = true := decide_eq_true c21
                clear c21
                by_cases c22 : 0 ≤ x6_2
                · rw [if_pos c22] at H
                  have c22b0 : decide (0 ≤ x6_2) = true := decide_eq_true c22
                  clear c22
                  replace H := Option.bind_eq_some_iff.mp H
                  obtain ⟨t128, A240, H⟩ := H
                  replace H : (if t128 = true then (abacuslaw21_RecordWords.l0 k2 a0 t122 x4_2 x5_2 (wrap64 (x6_2 + 1))) else (if x4_2.length < 140737488355328 then ((some (x4_2 ++ [bt a0 x6_2] : List Int)).bind fun y129 => (if x6_2 = 0 then (abacuslaw21_RecordWords.l0 k2 a0 t122 y129 (wrap64 (x5_2 + 1)) (wrap64 (x6_2 + 1))) else (if 0 ≤ (wrap64 (x6_2 - 1)) then (if (wrap64 (x6_2 - 1)) < (a0.size : Int) then ((scan_Blank.f (bt a0 (wrap64 (x6_2 - 1)))).bind fun t132 => (if t132 = true then (abacuslaw21_RecordWords.l0 k2 a0 t122 y129 (wrap64 (x5_2 + 1)) (wrap64 (x6_2 + 1))) else (abacuslaw21_RecordWords.l0 k2 a0 t122 y129 x5_2 (wrap64 (x6_2 + 1))))) else (none)) else (none)))) else (none))) = some r := H
                  have A24 := Aside0.mk A240
                  clear A240
                  by_cases c25 : t128 = true
                  · subst c25
                    have H1 : (abacuslaw21_RecordWords.l0 k2 a0 t122 x4_2 x5_2 (wrap64 (x6_2 + 1))) = some r := by rw [if_pos rfl] at H; exact H
                    clear H
                    have H := H1
                    clear H1
                    have H' := Aside0.mk H
                    clear H
                    have p23 : 0 ≤ (x6_2 : Int) := of_decide_eq_true (by first | (with_reducible assumption) | assumption)
                    have q23 : x6_2 < (a0.size : Int) := of_decide_eq_true (by first | (with_reducible assumption) | assumption)
                    have hx23 := bt_at a0 x6_2
                    replace p23 := eq_true p23
                    replace q23 := eq_true q23
                    go_wp2_with (first | ((with_reducible refine gate_callee (f := 5) rfl ?_); refine goesL_ (some 44) rfl rfl Try.func5 (by kernel_rfl) rfl #[.int .u8 (bt a0 x6_2)] rfl (by (try simp only [List.map_toArray, List.map_cons, List.map_nil]); first | done | rfl | (simp only [List.length_drop, List.length_take]; rfl)) ?_; (with_reducible refine (scan_Blank.calls (bt a0 x6_2) true _ A24.out).mono ?_); rintro e w' ⟨rfl, ⟨nd, rfl⟩⟩; refine ⟨_, rfl, ?_⟩))
                    go_roundg k2
                    case measure => have := HJ2.out; have := HK2.out; omega
                    case rel => exact ⟨(x4_2), (x5_2), (wrap64 (x6_2 + 1)), (by first | rfl | (simp; done) | (simp [*]; done)), (by first | rfl | (simp; done) | (simp [*]; done)), H', ⟨by have := HJ2.out; have := HK2.out; omega⟩, ⟨by (with_reducible repeat (first | apply Kd.R_alloc | apply Kd.R_drewN | apply Kd.R_drew)); exact HO_3.out⟩, ⟨by (with_reducible repeat (first | apply Kd.R_alloc | apply Kd.R_drewN | apply Kd.R_drew)); exact HO_4.out⟩, ⟨by repeat (first | (with_reducible first | exact HB.out | apply below_alloc | apply pw_below_drewN | apply below_drew1) | exact HB.out)⟩⟩
                  · replace c25 := Bool.eq_false_iff.mpr c25
                    subst c25
                    have H1 : (if x4_2.length < 140737488355328 then ((some (x4_2 ++ [bt a0 x6_2] : List Int)).bind fun y129 => (if x6_2 = 0 then (abacuslaw21_RecordWords.l0 k2 a0 t122 y129 (wrap64 (x5_2 + 1)) (wrap64 (x6_2 + 1))) else (if 0 ≤ (wrap64 (x6_2 - 1)) then (if (wrap64 (x6_2 - 1)) < (a0.size : Int) then ((scan_Blank.f (bt a0 (wrap64 (x6_2 - 1)))).bind fun t132 => (if t132 = true then (abacuslaw21_RecordWords.l0 k2 a0 t122 y129 (wrap64 (x5_2 + 1)) (wrap64 (x6_2 + 1))) else (abacuslaw21_RecordWords.l0 k2 a0 t122 y129 x5_2 (wrap64 (x6_2 + 1))))) else (none)) else (none)))) else (none)) = some r := by rw [if_neg (show ¬ (false = true) by decide)] at H; exact H
                    clear H
                    have H := H1
                    clear H1
                    by_cases c27 : x4_2.length < 140737488355328
                    · rw [if_pos c27] at H
                      have LMc27 := Aside0.mk c27
                      clear c27
                      obtain ⟨y129, hy129⟩ : ∃ y_ : List Int, y_ = (x4_2 ++ [bt a0 x6_2]) := ⟨_, rfl⟩
                      replace H : (if x6_2 = 0 then (abacuslaw21_RecordWords.l0 k2 a0 t122 y129 (wrap64 (x5_2 + 1)) (wrap64 (x6_2 + 1))) else (if 0 ≤ (wrap64 (x6_2 - 1)) then (if (wrap64 (x6_2 - 1)) < (a0.size : Int) then ((scan_Blank.f (bt a0 (wrap64 (x6_2 - 1)))).bind fun t132 => (if t132 = true then (abacuslaw21_RecordWords.l0 k2 a0 t122 y129 (wrap64 (x5_2 + 1)) (wrap64 (x6_2 + 1))) else (abacuslaw21_RecordWords.l0 k2 a0 t122 y129 x5_2 (wrap64 (x6_2 + 1))))) else (none)) else (none))) = some r := by first | (rw [hy129]; with_reducible exact H) | (have H2_ := (Option.bind_some _ _).symm.trans H; rw [hy129]; with_reducible exact H2_) | (have H2_ := (Option.bind_some _ _).symm.trans H; with_reducible exact H2_) | with_reducible exact H | (rw [hy129]; exact H) | exact H
                      have Ny129 := Aside0.mk hy129
                      clear hy129
                      by_cases c28 : x6_2 = 0
                      · rw [if_pos c28] at H
                        have c28b0 : (x6_2 == 0) = true := beq_iff_eq.mpr c28
                        have c28b1 : (x6_2 != 0) = false := bne_eq_false_iff_eq.mpr c28
                        clear c28
                        have H' := Aside0.mk H
                        clear H
                        have p23 : 0 ≤ (x6_2 : Int) := of_decide_eq_true (by first | (with_reducible assumption) | assumption)
                        have q23 : x6_2 < (a0.size : Int) := of_decide_eq_true (by first | (with_reducible assumption) | assumption)
                        have hx23 := bt_at a0 x6_2
                        replace p23 := eq_true p23
                        replace q23 := eq_true q23
                        go_wp2_with (first | ((with_reducible refine gate_callee (f := 5) rfl ?_); refine goesL_ (some 44) rfl rfl Try.func5 (by kernel_rfl) rfl #[.int .u8 (bt a0 x6_2)] rfl (by (try simp only [List.map_toArray, List.map_cons, List.map_nil]); first | done | rfl | (simp only [List.length_drop, List.length_take]; rfl)) ?_; (with_reducible refine (scan_Blank.calls (bt a0 x6_2) false _ A24.out).mono ?_); rintro e w' ⟨rfl, ⟨nd, rfl⟩⟩; refine ⟨_, rfl, ?_⟩; have p26 : 0 ≤ (x6_2 : Int) := of_decide_eq_true (by first | (with_reducible assumption) | assumption); have q26 : x6_2 < (a0.size : Int) := of_decide_eq_true (by first | (with_reducible assumption) | assumption); have hx26 := bt_at a0 x6_2; replace p26 := eq_true p26; replace q26 := eq_true q26) | ((with_reducible refine gate_builtin (b := .append) (xs := #[.tmp 45, .tmp 49]) rfl ?_); (try (refine gate_guard (by rfl) ?_; dsimp only)); at_builtin; refine Kd.R_append (Kd.int .u8) (w0 := w) w.heap.size rfl (.tmp 45) (.tmp 49) 24 5 (.int .u8 0) 1 rfl Try.underlying24 info5 rfl (by decide) (by omega) u4 x4_2 (bt a0 x6_2) [.int .u8 (bt a0 x6_2)] (fun _ => True) (fun _ => False) rfl rfl ?aP (fun _ hk => hk.elim) ?aF ?aO ?aB ?aS ?aL ?_; (case aP => exact rfl); (case aB => exact (by repeat (first | (with_reducible first | exact HB.out | apply below_alloc | apply pw_below_drewN | apply below_drew1) | exact HB.out))); (case aF => exact (fun _ _ => trivial)); (case aO => exact (by (with_reducible repeat (first | apply Kd.R_alloc | apply Kd.R_drewN | apply Kd.R_drew)); exact HO_4.out)); (case aS => exact (below_size (by repeat (first | (with_reducible first | exact HB.out | apply below_alloc | apply pw_below_drewN | apply below_drew1) | exact HB.out)))); (case aL => have := LMc27.out; omega); intro v130 w29 ho hb hg hat; rw [← Ny129.out] at ho; have n0_ := Aside0.mk (Kd.R_over' (by (with_reducible repeat (first | apply Kd.R_alloc | apply Kd.R_drewN | apply Kd.R_drew)); exact HO_3.out) (Kd.R_typed (by (with_reducible repeat (first | apply Kd.R_alloc | apply Kd.R_drewN | apply Kd.R_drew)); exact HO_4.out)) (by decide) hg); have n1_ := Aside0.mk (hb); have n2_ := Aside0.mk (ho); clear HO_3; clear HB; clear HO_4; have HO_3 := n0_; have HB := n1_; have HO131 := n2_; clear n0_ n1_ n2_; clear ho hb hg hat))
                        go_roundg k2
                        case measure => have := HJ2.out; have := HK2.out; omega
                        case rel => exact ⟨(y129), (wrap64 (x5_2 + 1)), (wrap64 (x6_2 + 1)), (by first | rfl | (simp; done) | (simp [*]; done)), (by first | rfl | (simp; done) | (simp [*]; done)), H', ⟨by have := HJ2.out; have := HK2.out; omega⟩, ⟨by (with_reducible repeat (first | apply Kd.R_alloc | apply Kd.R_drewN | apply Kd.R_drew)); exact HO_3.out⟩, ⟨by (with_reducible repeat (first | apply Kd.R_alloc | apply Kd.R_drewN | apply Kd.R_drew)); exact HO131.out⟩, ⟨by repeat (first | (with_reducible first | exact HB.out | apply below_alloc | apply pw_below_drewN | apply below_drew1) | exact HB.out)⟩⟩
                      · rw [if_neg c28] at H
                        have c28b0 : (x6_2 == 0) = false := beq_eq_false_iff_ne.mpr c28
                        have c28b1 : (x6_2 != 0) = true := bne_iff_ne.mpr c28
                        obtain ⟨ji30, hji30⟩ : ∃ j_ : Int, (wrap64 (x6_2 - 1)) = j_ := ⟨_, rfl⟩
                        replace H : (if 0 ≤ (ji30) then (if (ji30) < (a0.size : Int) then ((scan_Blank.f (bt a0 (ji30))).bind fun t132 => (if t132 = true then (abacuslaw21_RecordWords.l0 k2 a0 t122 y129 (wrap64 (x5_2 + 1)) (wrap64 (x6_2 + 1))) else (abacuslaw21_RecordWords.l0 k2 a0 t122 y129 x5_2 (wrap64 (x6_2 + 1))))) else (none)) else (none)) = some r := by first | (rw [hji30] at H; exact H) | (simp only [hji30] at H ⊢; exact H)
                        (try rw [hji30] at A24)
                        have hji30w : (IntKind.i64.wrap (x6_2 - 1)) = ji30 := (i64_w _).trans hji30
                        by_cases c31 : 0 ≤ (ji30)
                        · rw [if_pos c31] at H
                          have c31b0 : decide (0 ≤ (ji30)) = true := decide_eq_true c31
                          clear c31
                          by_cases c32 : (ji30) < (a0.size : Int)
                          · rw [if_pos c32] at H
                            have c32b0 : decide ((ji30) < (a0.size : Int)) = true := decide_eq_true c32
                            clear c32
                            replace H := Option.bind_eq_some_iff.mp H
                            obtain ⟨t132, A340, H⟩ := H
                            replace H : (if t132 = true then (abacuslaw21_RecordWords.l0 k2 a0 t122 y129 (wrap64 (x5_2 + 1)) (wrap64 (x6_2 + 1))) else (abacuslaw21_RecordWords.l0 k2 a0 t122 y129 x5_2 (wrap64 (x6_2 + 1)))) = some r := H
                            have A34 := Aside0.mk A340
                            clear A340
                            by_cases c35 : t132 = true
                            · subst c35
                              have H1 : (abacuslaw21_RecordWords.l0 k2 a0 t122 y129 (wrap64 (x5_2 + 1)) (wrap64 (x6_2 + 1))) = some r := by rw [if_pos rfl] at H; exact H
                              clear H
                              have H := H1
                              clear H1
                              have H' := Aside0.mk H
                              clear H
                              have p23 : 0 ≤ (x6_2 : Int) := of_decide_eq_true (by first | (with_reducible assumption) | assumption)
                              have q23 : x6_2 < (a0.size : Int) := of_decide_eq_true (by first | (with_reducible assumption) | assumption)
                              have hx23 := bt_at a0 x6_2
                              replace p23 := eq_true p23
                              replace q23 := eq_true q23
                              go_wp2_with (first | ((with_reducible refine gate_callee (f := 5) rfl ?_); refine goesL_ (some 44) rfl rfl Try.func5 (by kernel_rfl) rfl #[.int .u8 (bt a0 x6_2)] rfl (by (try simp only [List.map_toArray, List.map_cons, List.map_nil]); first | done | rfl | (simp only [List.length_drop, List.length_take]; rfl)) ?_; (with_reducible refine (scan_Blank.calls (bt a0 x6_2) false _ A24.out).mono ?_); rintro e w' ⟨rfl, ⟨nd, rfl⟩⟩; refine ⟨_, rfl, ?_⟩; have p26 : 0 ≤ (x6_2 : Int) := of_decide_eq_true (by first | (with_reducible assumption) | assumption); have q26 : x6_2 < (a0.size : Int) := of_decide_eq_true (by first | (with_reducible assumption) | assumption); have hx26 := bt_at a0 x6_2; replace p26 := eq_true p26; replace q26 := eq_true q26) | ((with_reducible refine gate_builtin (b := .append) (xs := #[.tmp 45, .tmp 49]) rfl ?_); (try (refine gate_guard (by rfl) ?_; dsimp only)); at_builtin; refine Kd.R_append (Kd.int .u8) (w0 := w) w.heap.size rfl (.tmp 45) (.tmp 49) 24 5 (.int .u8 0) 1 rfl Try.underlying24 info5 rfl (by decide) (by omega) u4 x4_2 (bt a0 x6_2) [.int .u8 (bt a0 x6_2)] (fun _ => True) (fun _ => False) rfl rfl ?aP (fun _ hk => hk.elim) ?aF ?aO ?aB ?aS ?aL ?_; (case aP => exact rfl); (case aB => exact (by repeat (first | (with_reducible first | exact HB.out | apply below_alloc | apply pw_below_drewN | apply below_drew1) | exact HB.out))); (case aF => exact (fun _ _ => trivial)); (case aO => exact (by (with_reducible repeat (first | apply Kd.R_alloc | apply Kd.R_drewN | apply Kd.R_drew)); exact HO_4.out)); (case aS => exact (below_size (by repeat (first | (with_reducible first | exact HB.out | apply below_alloc | apply pw_below_drewN | apply below_drew1) | exact HB.out)))); (case aL => have := LMc27.out; omega); intro v130 w36 ho hb hg hat; rw [← Ny129.out] at ho; have n0_ := Aside0.mk (Kd.R_over' (by (with_reducible repeat (first | apply Kd.R_alloc | apply Kd.R_drewN | apply Kd.R_drew)); exact HO_3.out) (Kd.R_typed (by (with_reducible repeat (first | apply Kd.R_alloc | apply Kd.R_drewN | apply Kd.R_drew)); exact HO_4.out)) (by decide) hg); have n1_ := Aside0.mk (hb); have n2_ := Aside0.mk (ho); clear HO_3; clear HB; clear HO_4; have HO_3 := n0_; have HB := n1_; have HO131 := n2_; clear n0_ n1_ n2_; clear ho hb hg hat; have p33 : 0 ≤ ((ji30) : Int) := of_decide_eq_true (by first | (with_reducible assumption) | assumption); have q33 : (ji30) < (a0.size : Int) := of_decide_eq_true (by first | (with_reducible assumption) | assumption); have hx33 := bt_at a0 (ji30); replace p33 := eq_true p33; replace q33 := eq_true q33) | (go_at_call 5; (with_reducible refine (scan_Blank.calls (bt a0 (ji30)) true _ A34.out).mono ?_); rintro e w' ⟨rfl, ⟨nd, rfl⟩⟩))
                              go_roundg k2
                              case measure => have := HJ2.out; have := HK2.out; omega
                              case rel => exact ⟨(y129), (wrap64 (x5_2 + 1)), (wrap64 (x6_2 + 1)), (by first | rfl | (simp; done) | (simp [*]; done)), (by first | rfl | (simp; done) | (simp [*]; done)), H', ⟨by have := HJ2.out; have := HK2.out; omega⟩, ⟨by (with_reducible repeat (first | apply Kd.R_alloc | apply Kd.R_drewN | apply Kd.R_drew)); exact HO_3.out⟩, ⟨by (with_reducible repeat (first | apply Kd.R_alloc | apply Kd.R_drewN | apply Kd.R_drew)); exact HO131.out⟩, ⟨by repeat (first | (with_reducible first | exact HB.out | apply below_alloc | apply pw_below_drewN | apply below_drew1) | exact HB.out)⟩⟩
                            · replace c35 := Bool.eq_false_iff.mpr c35
                              subst c35
                              have H1 : (abacuslaw21_RecordWords.l0 k2 a0 t122 y129 x5_2 (wrap64 (x6_2 + 1))) = some r := by rw [if_neg (show ¬ (false = true) by decide)] at H; exact H
                              clear H
                              have H := H1
                              clear H1
                              have H' := Aside0.mk H
                              clear H
                              have p23 : 0 ≤ (x6_2 : Int) := of_decide_eq_true (by first | (with_reducible assumption) | assumption)
                              have q23 : x6_2 < (a0.size : Int) := of_decide_eq_true (by first | (with_reducible assumption) | assumption)
                              have hx23 := bt_at a0 x6_2
                              replace p23 := eq_true p23
                              replace q23 := eq_true q23
                              go_wp2_with (first | ((with_reducible refine gate_callee (f := 5) rfl ?_); refine goesL_ (some 44) rfl rfl Try.func5 (by kernel_rfl) rfl #[.int .u8 (bt a0 x6_2)] rfl (by (try simp only [List.map_toArray, List.map_cons, List.map_nil]); first | done | rfl | (simp only [List.length_drop, List.length_take]; rfl)) ?_; (with_reducible refine (scan_Blank.calls (bt a0 x6_2) false _ A24.out).mono ?_); rintro e w' ⟨rfl, ⟨nd, rfl⟩⟩; refine ⟨_, rfl, ?_⟩; have p26 : 0 ≤ (x6_2 : Int) := of_decide_eq_true (by first | (with_reducible assumption) | assumption); have q26 : x6_2 < (a0.size : Int) := of_decide_eq_true (by first | (with_reducible assumption) | assumption); have hx26 := bt_at a0 x6_2; replace p26 := eq_true p26; replace q26 := eq_true q26) | ((with_reducible refine gate_builtin (b := .append) (xs := #[.tmp 45, .tmp 49]) rfl ?_); (try (refine gate_guard (by rfl) ?_; dsimp only)); at_builtin; refine Kd.R_append (Kd.int .u8) (w0 := w) w.heap.size rfl (.tmp 45) (.tmp 49) 24 5 (.int .u8 0) 1 rfl Try.underlying24 info5 rfl (by decide) (by omega) u4 x4_2 (bt a0 x6_2) [.int .u8 (bt a0 x6_2)] (fun _ => True) (fun _ => False) rfl rfl ?aP (fun _ hk => hk.elim) ?aF ?aO ?aB ?aS ?aL ?_; (case aP => exact rfl); (case aB => exact (by repeat (first | (with_reducible first | exact HB.out | apply below_alloc | apply pw_below_drewN | apply below_drew1) | exact HB.out))); (case aF => exact (fun _ _ => trivial)); (case aO => exact (by (with_reducible repeat (first | apply Kd.R_alloc | apply Kd.R_drewN | apply Kd.R_drew)); exact HO_4.out)); (case aS => exact (below_size (by repeat (first | (with_reducible first | exact HB.out | apply below_alloc | apply pw_below_drewN | apply below_drew1) | exact HB.out)))); (case aL => have := LMc27.out; omega); intro v130 w37 ho hb hg hat; rw [← Ny129.out] at ho; have n0_ := Aside0.mk (Kd.R_over' (by (with_reducible repeat (first | apply Kd.R_alloc | apply Kd.R_drewN | apply Kd.R_drew)); exact HO_3.out) (Kd.R_typed (by (with_reducible repeat (first | apply Kd.R_alloc | apply Kd.R_drewN | apply Kd.R_drew)); exact HO_4.out)) (by decide) hg); have n1_ := Aside0.mk (hb); have n2_ := Aside0.mk (ho); clear HO_3; clear HB; clear HO_4; have HO_3 := n0_; have HB := n1_; have HO131 := n2_; clear n0_ n1_ n2_; clear ho hb hg hat; have p33 : 0 ≤ ((ji30) : Int) := of_decide_eq_true (by first | (with_reducible assumption) | assumption); have q33 : (ji30) < (a0.size : Int) := of_decide_eq_true (by first | (with_reducible assumption) | assumption); have hx33 := bt_at a0 (ji30); replace p33 := eq_true p33; replace q33 := eq_true q33) | (go_at_call 5; (with_reducible refine (scan_Blank.calls (bt a0 (ji30)) false _ A34.out).mono ?_); rintro e w' ⟨rfl, ⟨nd, rfl⟩⟩))
                              go_roundg k2
                              case measure => have := HJ2.out; have := HK2.out; omega
                              case rel => exact ⟨(y129), (x5_2), (wrap64 (x6_2 + 1)), (by first | rfl | (simp; done) | (simp [*]; done)), (by first | rfl | (simp; done) | (simp [*]; done)), H', ⟨by have := HJ2.out; have := HK2.out; omega⟩, ⟨by (with_reducible repeat (first | apply Kd.R_alloc | apply Kd.R_drewN | apply Kd.R_drew)); exact HO_3.out⟩, ⟨by (with_reducible repeat (first | apply Kd.R_alloc | apply Kd.R_drewN | apply Kd.R_drew)); exact HO131.out⟩, ⟨by repeat (first | (with_reducible first | exact HB.out | apply below_alloc | apply pw_below_drewN | apply below_drew1) | exact HB.out)⟩⟩
                          · rw [if_neg c32] at H
                            exact absurd H (by simp)
                        · rw [if_neg c31] at H
                          exact absurd H (by simp)
                    · rw [if_neg c27] at H
                      exact absurd H (by simp)
                · rw [if_neg c22] at H
                  exact absurd H (by simp)
              · rw [if_neg c21] at H
                have c21b0 : decide (x6_2 < (a0.size : Int)) = false := decide_eq_false c21
                clear c21
                have HC38 := Aside0.mk H
                clear H
                go_upto_region 16 with (fail)
                go_cut [72] (fun v72 wc => ∃ (kq : Nat) (x72_37 : Bool), v72 = .bool x72_37 ∧ Aside0 (abacuslaw21_RecordWords.j2 kq a0 t122 x72_37 = some r) ∧ Aside0 (kq ≤ k2) ∧ Aside0 (Kd.R Kd.string 9 wc w.heap.size (fun _ => True) (.slice Ao18 t122.length co18) t122) ∧ Aside0 (Below w.heap.size w wc))
                case first =>
                  have H := HC38.out
                  clear HC38
                  replace H := Option.bind_eq_some_iff.mp H
                  obtain ⟨t133, A390, H⟩ := H
                  replace H : (if t133.toList = (strOfNums x4_2).toList then (abacuslaw21_RecordWords.j2 k2 a0 t122 ((t122.length : Int) != x5_2)) else (abacuslaw21_RecordWords.j2 k2 a0 t122 true)) = some r := H
                  have A39 := Aside0.mk A390
                  clear A390
                  by_cases c40 : t133.toList = (strOfNums x4_2).toList
                  · rw [if_pos c40] at H
                    have c40b0 : (t133.toList == (strOfNums x4_2).toList) = true := beq_iff_eq.mpr c40
                    have c40b1 : (t133.toList != (strOfNums x4_2).toList) = false := bne_eq_false_iff_eq.mpr c40
                    clear c40
                    (first | rw [c40b0] | (simp only [i64_w, i32_w]; rw [c40b0]) | skip)
                    have H' := Aside0.mk H
                    clear H
                    try go_wp2
                    have n0_ := Aside0.mk (Kd.R_drew HO_3.out)
                    have n1_ := Aside0.mk (Kd.R_drew HO_4.out)
                    have n2_ := Aside0.mk (below_drew1 HB.out)
                    clear HO_3
                    clear HO_4
                    clear HB
                    have HO_3 := n0_
                    have HO_4 := n1_
                    have HB := n2_
                    clear n0_ n1_ n2_
                    refine start_ (n := 11) (S := fun w' => (Sem.run Try.prog (convert 24 9 u4) w' = .ok (.string (strOfNums x4_2)) w')) (ds := []) #[false, false, false, false, false, false, false, false, false, false, false] (by kernel_rfl) rfl rfl (own_string (P := Try.prog) Try.underlying24 Try.underlying5 Try.underlying9 (Kd.own_of_R HO_4.out)) (fun hHeld => ?_); refine with_tabW abacuslaw21_RecordWords.tab16 abacuslaw21_RecordWords.bits16 (fun HT_ HW_ => ?_)
                    generalize wr.drew = w41 at HO_3 HO_4 HB hHeld ⊢
                    refine pure_ (i := 0) (N := some 62) (v := ?_) (a' := ?_) #[true, false, false, false, false, false, false, false, false, false, false] rfl rfl (any_of HT_.out (by kernel_rfl)) (fun _ _ _ h => h) (Or.inl ⟨by rfl, ?_⟩) ?_ ?_
                    rotate_left
                    · intro w'
                      go_simp
                      with_reducible rfl
                    rotate_left
                    · simp only [Act.put, List.setIfInBounds_toArray, List.set_cons_zero, List.set_cons_succ, i64_w, i32_w]
                      rfl
                    refine pure_ (i := 2) (N := some 64) (v := ?_) (a' := ?_) #[true, false, true, false, false, false, false, false, false, false, false] rfl rfl (any_of HT_.out (by kernel_rfl)) (fun _ _ _ h => h) (Or.inl ⟨by rfl, ?_⟩) ?_ ?_
                    rotate_left
                    · intro w'
                      go_simp
                      with_reducible rfl
                    rotate_left
                    · simp only [Act.put, List.setIfInBounds_toArray, List.set_cons_zero, List.set_cons_succ, i64_w, i32_w]
                      rfl
                    refine take_ (i := 3) (N := some 65) (v := ?_) (a' := ?_) #[true, false, true, true, false, false, false, false, false, false, false] rfl rfl (take_ofW HT_.out HW_.out (by kernel_rfl)) (fun _ _ _ h => h) (Or.inl ⟨by rfl, ?_⟩) hHeld ?_ ?_
                    rotate_left
                    · intro w' s0
                      go_simp
                      with_reducible rfl
                    rotate_left
                    · simp only [Act.put, List.setIfInBounds_toArray, List.set_cons_zero, List.set_cons_succ, i64_w, i32_w]
                      rfl
                    refine one_ (i := 1) (N := some 63) #[true, true, true, true, false, false, false, false, false, false, false] rfl rfl (one_of HT_.out (by kernel_rfl)) (by decide) (fun K hK => ?_)
                    refine goes_ Try.func6 (by kernel_rfl) rfl #[.slice Ao18 t122.length co18, .string (⟨#[]⟩ : ByteArray)] (by rfl) rfl rfl (by (try simp only [List.map_toArray, List.map_cons, List.map_nil]); first | done | rfl | (simp only [List.length_drop, List.length_take]; rfl)) ?_
                    with_reducible refine (abacuslaw21_joined.calls k2 _ _ t122 (⟨#[]⟩ : ByteArray) t133 _ ?side1 ?side2 A39.out).mono ?_
                    (case side1 => repeat (first | exact (Kd.R_reads' HO_3.out).2.2 | (with_reducible refine Kd.C_alloc ?_ _) | (with_reducible refine Kd.C_drewN ?_ _) | (with_reducible refine Kd.C_drew ?_)))
                    (case side2 => exact (Kd.R_reads' HO_3.out).2.1)
                    rintro e w42 ⟨rfl, hb⟩
                    refine ⟨_, rfl, ?_⟩
                    have n0_ := Aside0.mk (Kd.R_below (by (with_reducible repeat (first | apply Kd.R_alloc | apply Kd.R_drewN | apply Kd.R_drew)); exact HO_3.out) hb)
                    have n1_ := Aside0.mk (Kd.R_below (by (with_reducible repeat (first | apply Kd.R_alloc | apply Kd.R_drewN | apply Kd.R_drew)); exact HO_4.out) hb)
                    have n2_ := Aside0.mk (below_step (by repeat (first | (with_reducible first | exact HB.out | apply below_alloc | apply pw_below_drewN | apply below_drew1) | exact HB.out)) hb)
                    clear HO_3
                    clear HO_4
                    clear HB
                    have HO_3 := n0_
                    have HO_4 := n1_
                    have HB := n2_
                    clear n0_ n1_ n2_
                    (try clear hb)
                    (try clear hb2)
                    (try clear hk)
                    (try clear hi)
                    have hcv43 := own_string (P := Try.prog) Try.underlying24 Try.underlying5 Try.underlying9 (Kd.own_of_R HO_4.out)
                    refine hK.out _ _ (own_string (P := Try.prog) Try.underlying24 Try.underlying5 Try.underlying9 (Kd.own_of_R HO_4.out)) (fun hHeld => ?_)
                    clear hK K
                    refine norm_ (a' := ?_) ?_ ?_
                    rotate_left
                    · show Act.put _ (some 63) _ = _
                      simp only [Act.put, List.setIfInBounds_toArray, List.set_cons_zero, List.set_cons_succ, i64_w, i32_w]
                      rfl
                    refine pure_ (i := 4) (N := some 66) (v := ?_) (a' := ?_) #[true, true, true, true, true, false, false, false, false, false, false] rfl rfl (any_of HT_.out (by kernel_rfl)) (fun _ _ _ h => h) (Or.inl ⟨by rfl, ?_⟩) ?_ ?_
                    rotate_left
                    · intro w'
                      go_simp
                      with_reducible rfl
                    rotate_left
                    · simp only [Act.put, List.setIfInBounds_toArray, List.set_cons_zero, List.set_cons_succ, i64_w, i32_w]
                      rfl
                    refine pure_ (i := 5) (N := some 67) (v := ?_) (a' := ?_) #[true, true, true, true, true, true, false, false, false, false, false] rfl rfl (any_of HT_.out (by kernel_rfl)) (fun _ _ _ h => h) (Or.inl ⟨by rfl, ?_⟩) ?_ ?_
                    rotate_left
                    · intro w'
                      go_simp
                      with_reducible rfl
                    rotate_left
                    · simp only [Act.put, List.setIfInBounds_toArray, List.set_cons_zero, List.set_cons_succ, i64_w, i32_w]
                      rfl
                    refine pure_ (i := 6) (N := some 68) (v := ?_) (a' := ?_) #[true, true, true, true, true, true, true, false, false, false, false] rfl rfl (any_of HT_.out (by kernel_rfl)) (fun _ _ _ h => h) (Or.inl ⟨by rfl, ?_⟩) ?_ ?_
                    rotate_left
                    · intro w'
                      go_simp
                      with_reducible rfl
                    rotate_left
                    · simp only [Act.put, List.setIfInBounds_toArray, List.set_cons_zero, List.set_cons_succ, i64_w, i32_w]
                      rfl
                    refine pure_ (i := 7) (N := some 69) (v := ?_) (a' := ?_) #[true, true, true, true, true, true, true, true, false, false, false] rfl rfl (any_of HT_.out (by kernel_rfl)) (fun _ _ _ h => h) (Or.inl ⟨by rfl, ?_⟩) ?_ ?_
                    rotate_left
                    · intro w'
                      go_simp
                      with_reducible rfl
                    rotate_left
                    · simp only [Act.put, List.setIfInBounds_toArray, List.set_cons_zero, List.set_cons_succ, i64_w, i32_w]
                      rfl
                    refine pure_ (i := 8) (N := some 70) (v := ?_) (a' := ?_) #[true, true, true, true, true, true, true, true, true, false, false] rfl rfl (any_of HT_.out (by kernel_rfl)) (fun _ _ _ h => h) (Or.inl ⟨by rfl, ?_⟩) ?_ ?_
                    rotate_left
                    · intro w'
                      go_simp
                      with_reducible rfl
                    rotate_left
                    · simp only [Act.put, List.setIfInBounds_toArray, List.set_cons_zero, List.set_cons_succ, i64_w, i32_w]
                      rfl
                    refine pure_ (i := 9) (N := some 71) (v := ?_) (a' := ?_) #[true, true, true, true, true, true, true, true, true, true, false] rfl rfl (any_of HT_.out (by kernel_rfl)) (fun _ _ _ h => h) (Or.inl ⟨by rfl, ?_⟩) ?_ ?_
                    rotate_left
                    · intro w'
                      go_simp
                      with_reducible rfl
                    rotate_left
                    · simp only [Act.put, List.setIfInBounds_toArray, List.set_cons_zero, List.set_cons_succ, i64_w, i32_w]
                      rfl
                    refine pure_ (i := 10) (N := some 72) (v := ?_) (a' := ?_) #[true, true, true, true, true, true, true, true, true, true, true] rfl rfl (any_of HT_.out (by kernel_rfl)) (fun _ _ _ h => h) (Or.inl ⟨by rfl, ?_⟩) ?_ ?_
                    rotate_left
                    · intro w'
                      go_simp
                      with_reducible rfl
                    rotate_left
                    · simp only [Act.put, List.setIfInBounds_toArray, List.set_cons_zero, List.set_cons_succ, i64_w, i32_w]
                      rfl
                    refine done_ (done_of HT_.out (by kernel_rfl)) ?_
                    try go_wp2
                    go_meet
                    case rel => exact ⟨_, (((t122.length : Int) != x5_2)), (by first | rfl | (simp; done) | (simp [*]; done)), H', ⟨by have := HJ2.out; have := HK2.out; first | omega | exact Nat.le_refl _⟩, ⟨by (with_reducible repeat (first | apply Kd.R_alloc | apply Kd.R_drewN | apply Kd.R_drew)); exact HO_3.out⟩, ⟨by repeat (first | (with_reducible first | exact HB.out | apply below_alloc | apply pw_below_drewN | apply below_drew1) | exact HB.out)⟩⟩
                  · rw [if_neg c40] at H
                    have c40b0 : (t133.toList == (strOfNums x4_2).toList) = false := beq_eq_false_iff_ne.mpr c40
                    have c40b1 : (t133.toList != (strOfNums x4_2).toList) = true := bne_iff_ne.mpr c40
                    (first | rw [c40b0] | (simp only [i64_w, i32_w]; rw [c40b0]) | skip)
                    have H' := Aside0.mk H
                    clear H
                    try go_wp2
                    have n0_ := Aside0.mk (Kd.R_drew HO_3.out)
                    have n1_ := Aside0.mk (Kd.R_drew HO_4.out)
                    have n2_ := Aside0.mk (below_drew1 HB.out)
                    clear HO_3
                    clear HO_4
                    clear HB
                    have HO_3 := n0_
                    have HO_4 := n1_
                    have HB := n2_
                    clear n0_ n1_ n2_
                    refine start_ (n := 11) (S := fun w' => (Sem.run Try.prog (convert 24 9 u4) w' = .ok (.string (strOfNums x4_2)) w')) (ds := []) #[false, false, false, false, false, false, false, false, false, false, false] (by kernel_rfl) rfl rfl (own_string (P := Try.prog) Try.underlying24 Try.underlying5 Try.underlying9 (Kd.own_of_R HO_4.out)) (fun hHeld => ?_); refine with_tabW abacuslaw21_RecordWords.tab16 abacuslaw21_RecordWords.bits16 (fun HT_ HW_ => ?_)
                    generalize wr.drew = w45 at HO_3 HO_4 HB hHeld ⊢
                    refine pure_ (i := 0) (N := some 62) (v := ?_) (a' := ?_) #[true, false, false, false, false, false, false, false, false, false, false] rfl rfl (any_of HT_.out (by kernel_rfl)) (fun _ _ _ h => h) (Or.inl ⟨by rfl, ?_⟩) ?_ ?_
                    rotate_left
                    · intro w'
                      go_simp
                      with_reducible rfl
                    rotate_left
                    · simp only [Act.put, List.setIfInBounds_toArray, List.set_cons_zero, List.set_cons_succ, i64_w, i32_w]
                      rfl
                    refine pure_ (i := 2) (N := some 64) (v := ?_) (a' := ?_) #[true, false, true, false, false, false, false, false, false, false, false] rfl rfl (any_of HT_.out (by kernel_rfl)) (fun _ _ _ h => h) (Or.inl ⟨by rfl, ?_⟩) ?_ ?_
                    rotate_left
                    · intro w'
                      go_simp
                      with_reducible rfl
                    rotate_left
                    · simp only [Act.put, List.setIfInBounds_toArray, List.set_cons_zero, List.set_cons_succ, i64_w, i32_w]
                      rfl
                    refine take_ (i := 3) (N := some 65) (v := ?_) (a' := ?_) #[true, false, true, true, false, false, false, false, false, false, false] rfl rfl (take_ofW HT_.out HW_.out (by kernel_rfl)) (fun _ _ _ h => h) (Or.inl ⟨by rfl, ?_⟩) hHeld ?_ ?_
                    rotate_left
                    · intro w' s0
                      go_simp
                      with_reducible rfl
                    rotate_left
                    · simp only [Act.put, List.setIfInBounds_toArray, List.set_cons_zero, List.set_cons_succ, i64_w, i32_w]
                      rfl
                    refine one_ (i := 1) (N := some 63) #[true, true, true, true, false, false, false, false, false, false, false] rfl rfl (one_of HT_.out (by kernel_rfl)) (by decide) (fun K hK => ?_)
                    refine goes_ Try.func6 (by kernel_rfl) rfl #[.slice Ao18 t122.length co18, .string (⟨#[]⟩ : ByteArray)] (by rfl) rfl rfl (by (try simp only [List.map_toArray, List.map_cons, List.map_nil]); first | done | rfl | (simp only [List.length_drop, List.length_take]; rfl)) ?_
                    with_reducible refine (abacuslaw21_joined.calls k2 _ _ t122 (⟨#[]⟩ : ByteArray) t133 _ ?side1 ?side2 A39.out).mono ?_
                    (case side1 => repeat (first | exact (Kd.R_reads' HO_3.out).2.2 | (with_reducible refine Kd.C_alloc ?_ _) | (with_reducible refine Kd.C_drewN ?_ _) | (with_reducible refine Kd.C_drew ?_)))
                    (case side2 => exact (Kd.R_reads' HO_3.out).2.1)
                    rintro e w46 ⟨rfl, hb⟩
                    refine ⟨_, rfl, ?_⟩
                    have n0_ := Aside0.mk (Kd.R_below (by (with_reducible repeat (first | apply Kd.R_alloc | apply Kd.R_drewN | apply Kd.R_drew)); exact HO_3.out) hb)
                    have n1_ := Aside0.mk (Kd.R_below (by (with_reducible repeat (first | apply Kd.R_alloc | apply Kd.R_drewN | apply Kd.R_drew)); exact HO_4.out) hb)
                    have n2_ := Aside0.mk (below_step (by repeat (first | (with_reducible first | exact HB.out | apply below_alloc | apply pw_below_drewN | apply below_drew1) | exact HB.out)) hb)
                    clear HO_3
                    clear HO_4
                    clear HB
                    have HO_3 := n0_
                    have HO_4 := n1_
                    have HB := n2_
                    clear n0_ n1_ n2_
                    (try clear hb)
                    (try clear hb2)
                    (try clear hk)
                    (try clear hi)
                    have hcv47 := own_string (P := Try.prog) Try.underlying24 Try.underlying5 Try.underlying9 (Kd.own_of_R HO_4.out)
                    refine hK.out _ _ (own_string (P := Try.prog) Try.underlying24 Try.underlying5 Try.underlying9 (Kd.own_of_R HO_4.out)) (fun hHeld => ?_)
                    clear hK K
                    refine norm_ (a' := ?_) ?_ ?_
                    rotate_left
                    · show Act.put _ (some 63) _ = _
                      simp only [Act.put, List.setIfInBounds_toArray, List.set_cons_zero, List.set_cons_succ, i64_w, i32_w]
                      rfl
                    refine pure_ (i := 4) (N := some 66) (v := ?_) (a' := ?_) #[true, true, true, true, true, false, false, false, false, false, false] rfl rfl (any_of HT_.out (by kernel_rfl)) (fun _ _ _ h => h) (Or.inl ⟨by rfl, ?_⟩) ?_ ?_
                    rotate_left
                    · intro w'
                      go_simp
                      with_reducible rfl
                    rotate_left
                    · simp only [Act.put, List.setIfInBounds_toArray, List.set_cons_zero, List.set_cons_succ, i64_w, i32_w]
                      rfl
                    refine pure_ (i := 5) (N := some 67) (v := ?_) (a' := ?_) #[true, true, true, true, true, true, false, false, false, false, false] rfl rfl (any_of HT_.out (by kernel_rfl)) (fun _ _ _ h => h) (Or.inl ⟨by rfl, ?_⟩) ?_ ?_
                    rotate_left
                    · intro w'
                      go_simp
                      with_reducible rfl
                    rotate_left
                    · simp only [Act.put, List.setIfInBounds_toArray, List.set_cons_zero, List.set_cons_succ, i64_w, i32_w]
                      rfl
                    refine pure_ (i := 6) (N := some 68) (v := undef) (a' := ?_) #[true, true, true, true, true, true, true, false, false, false, false] rfl rfl (any_of HT_.out (by kernel_rfl)) (fun _ _ _ h => h) (Or.inr ⟨by rfl, rfl⟩) ?_ ?_
                    rotate_left
                    · simp only [Act.put, List.setIfInBounds_toArray, List.set_cons_zero, List.set_cons_succ, i64_w, i32_w]
                      rfl
                    refine pure_ (i := 7) (N := some 69) (v := undef) (a' := ?_) #[true, true, true, true, true, true, true, true, false, false, false] rfl rfl (any_of HT_.out (by kernel_rfl)) (fun _ _ _ h => h) (Or.inr ⟨by rfl, rfl⟩) ?_ ?_
                    rotate_left
                    · simp only [Act.put, List.setIfInBounds_toArray, List.set_cons_zero, List.set_cons_succ, i64_w, i32_w]
                      rfl
                    refine pure_ (i := 8) (N := some 70) (v := undef) (a' := ?_) #[true, true, true, true, true, true, true, true, true, false, false] rfl rfl (any_of HT_.out (by kernel_rfl)) (fun _ _ _ h => h) (Or.inr ⟨by rfl, rfl⟩) ?_ ?_
                    rotate_left
                    · simp only [Act.put, List.setIfInBounds_toArray, List.set_cons_zero, List.set_cons_succ, i64_w, i32_w]
                      rfl
                    refine pure_ (i := 9) (N := some 71) (v := undef) (a' := ?_) #[true, true, true, true, true, true, true, true, true, true, false] rfl rfl (any_of HT_.out (by kernel_rfl)) (fun _ _ _ h => h) (Or.inr ⟨by rfl, rfl⟩) ?_ ?_
                    rotate_left
                    · simp only [Act.put, List.setIfInBounds_toArray, List.set_cons_zero, List.set_cons_succ, i64_w, i32_w]
                      rfl
                    refine pure_ (i := 10) (N := some 72) (v := ?_) (a' := ?_) #[true, true, true, true, true, true, true, true, true, true, true] rfl rfl (any_of HT_.out (by kernel_rfl)) (fun _ _ _ h => h) (Or.inl ⟨by rfl, ?_⟩) ?_ ?_
                    rotate_left
                    · intro w'
                      go_simp
                      with_reducible rfl
                    rotate_left
                    · simp only [Act.put, List.setIfInBounds_toArray, List.set_cons_zero, List.set_cons_succ, i64_w, i32_w]
                      rfl
                    refine done_ (done_of HT_.out (by kernel_rfl)) ?_
                    try go_wp2
                    go_meet
                    case rel => exact ⟨_, (true), (by first | rfl | (simp; done) | (simp [*]; done)), H', ⟨by have := HJ2.out; have := HK2.out; first | omega | exact Nat.le_refl _⟩, ⟨by (with_reducible repeat (first | apply Kd.R_alloc | apply Kd.R_drewN | apply Kd.R_drew)); exact HO_3.out⟩, ⟨by repeat (first | (with_reducible first | exact HB.out | apply below_alloc | apply pw_below_drewN | apply below_drew1) | exact HB.out)⟩⟩
                case rest =>
                  clear HC38
                  try clear c1
                  try clear p1
                  try clear q1
                  try clear hx1
                  try clear qi1
                  try clear c2
                  try clear p2
                  try clear q2
                  try clear hx2
                  try clear c3
                  try clear p3
                  try clear q3
                  try clear hx3
                  try clear c4
                  try clear hcv4
                  try clear c5
                  try clear c5b0
                  try clear c5b1
                  try clear c6
                  try clear c6b0
                  try clear c6b1
                  try clear p6
                  try clear c7
                  try clear c7b0
                  try clear c7b1
                  try clear c8
                  try clear c8b0
                  try clear c8b1
                  try clear c12
                  try clear p12
                  try clear q12
                  try clear hx12
                  try clear qi12
                  try clear c14
                  try clear c14b0
                  try clear c14b1
                  try clear c21
                  try clear c21b0
                  try clear c22
                  try clear c22b0
                  try clear p23
                  try clear q23
                  try clear hx23
                  try clear c25
                  try clear p26
                  try clear q26
                  try clear hx26
                  try clear c27
                  try clear c28
                  try clear c28b0
                  try clear c28b1
                  try clear c31
                  try clear c31b0
                  try clear c32
                  try clear c32b0
                  try clear p33
                  try clear q33
                  try clear hx33
                  try clear c35
                  try clear c40
                  try clear c40b0
                  try clear c40b1
                  try clear hcv43
                  try clear hcv47
                  try clear hx120_0
                  try clear hx121_0
                  try clear p1
                  try clear p12
                  try clear p120
                  try clear p121
                  try clear p2
                  try clear p23
                  try clear p26
                  try clear p33
                  try clear q1
                  try clear q12
                  try clear q120
                  try clear q121
                  try clear q23
                  try clear q26
                  try clear q33
                  obtain ⟨kq, x72_37, rfl, HA, HJ37, HO_3, HB⟩ := hcut
                  cases kq with
                  | zero => exact absurd HA.out (by simp [abacuslaw21_RecordWords.j2])
                  | succ kj37 =>
                    have H := HA.out
                    clear HA
                    simp only [abacuslaw21_RecordWords.j2] at H
                    by_cases c49 : x72_37 = true
                    · subst c49
                      have H1 : (some false) = some r := by rw [if_pos rfl] at H; exact H
                      clear H
                      have H := H1
                      clear H1
                      obtain rfl := Option.some.inj H
                      go_wp2
                      go_ret
                      exact ⟨by first | rfl | (simp [errW_none, errW_some] <;> rfl) | (simp [*, errW_none, errW_some] <;> rfl), by repeat (first | (with_reducible first | exact HB.out | apply below_alloc | apply pw_below_drewN | apply below_drew1) | exact HB.out)⟩
                    · replace c49 := Bool.eq_false_iff.mpr c49
                      subst c49
                      have H1 : (abacuslaw21_RecordWords.l1 kj37 a0 t122 0) = some r := by rw [if_neg (show ¬ (false = true) by decide)] at H; exact H
                      clear H
                      have H := H1
                      clear H1
                      have H' := Aside0.mk H
                      clear H
                      go_wp2
                      go_loopg [7] kj37 (fun kq v7 w' => ∃ (x7_4 : Int), v7 = .int .i64 x7_4 ∧ Aside0 (abacuslaw21_RecordWords.l1 kq a0 t122 x7_4 = some r) ∧ Aside0 (kq ≤ kj37) ∧ Aside0 (Kd.R Kd.string 9 w' w.heap.size (fun _ => True) (.slice Ao18 t122.length co18) t122) ∧ Aside0 (Below w.heap.size w w'))
                      case atStart => exact ⟨(0), (by first | rfl | (simp; done) | (simp [*]; done)), H', ⟨Nat.le_refl _⟩, ⟨by (with_reducible repeat (first | apply Kd.R_alloc | apply Kd.R_drewN | apply Kd.R_drew)); exact HO_3.out⟩, ⟨by repeat (first | (with_reducible first | exact HB.out | apply below_alloc | apply pw_below_drewN | apply below_drew1) | exact HB.out)⟩⟩
                      case round =>
                        clear H'
                        try clear c1
                        try clear p1
                        try clear q1
                        try clear hx1
                        try clear qi1
                        try clear c2
                        try clear p2
                        try clear q2
                        try clear hx2
                        try clear c3
                        try clear p3
                        try clear q3
                        try clear hx3
                        try clear c4
                        try clear hcv4
                        try clear c5
                        try clear c5b0
                        try clear c5b1
                        try clear c6
                        try clear c6b0
                        try clear c6b1
                        try clear p6
                        try clear c7
                        try clear c7b0
                        try clear c7b1
                        try clear c8
                        try clear c8b0
                        try clear c8b1
                        try clear c12
                        try clear p12
                        try clear q12
                        try clear hx12
                        try clear qi12
                        try clear c14
                        try clear c14b0
                        try clear c14b1
                        try clear c21
                        try clear c21b0
                        try clear c22
                        try clear c22b0
                        try clear p23
                        try clear q23
                        try clear hx23
                        try clear c25
                        try clear p26
                        try clear q26
                        try clear hx26
                        try clear c27
                        try clear c28
                        try clear c28b0
                        try clear c28b1
                        try clear c31
                        try clear c31b0
                        try clear c32
                        try clear c32b0
                        try clear p33
                        try clear q33
                        try clear hx33
                        try clear c35
                        try clear c40
                        try clear c40b0
                        try clear c40b1
                        try clear hcv43
                        try clear hcv47
                        try clear c49
                        try clear hx120_0
                        try clear hx121_0
                        try clear p1
                        try clear p12
                        try clear p120
                        try clear p121
                        try clear p2
                        try clear p23
                        try clear p26
                        try clear p3
                        try clear p33
                        try clear p6
                        try clear q1
                        try clear q12
                        try clear q120
                        try clear q121
                        try clear q2
                        try clear q23
                        try clear q26
                        try clear q3
                        try clear q33
                        obtain ⟨x7_4, rfl, HA, HK4, HO_3, HB⟩ := hrel
                        cases gk with
                        | zero => exact absurd HA.out (by simp [abacuslaw21_RecordWords.l1])
                        | succ k4 =>
                          have H := HA.out
                          clear HA
                          simp only [abacuslaw21_RecordWords.l1] at H
                          by_cases c50 : x7_4 < (t122.length : Int)
                          · rw [if_pos c50] at H
                            have c50b0 : decide (x7_4 < (t122.length : Int)) = true := decide_eq_true c50
                            clear c50
                            by_cases c51 : 0 ≤ x7_4
                            · rw [if_pos c51] at H
                              have c51b0 : decide (0 ≤ x7_4) = true := decide_eq_true c51
                              clear c51
                              by_cases c52 : (rdOf ByteArray.empty t122 x7_4).toList = ([] : List UInt8)
                              · rw [if_pos c52] at H
                                have c52b0 : ((rdOf ByteArray.empty t122 x7_4).toList == ([] : List UInt8)) = true := beq_iff_eq.mpr c52
                                have c52b1 : ((rdOf ByteArray.empty t122 x7_4).toList != ([] : List UInt8)) = false := bne_eq_false_iff_eq.mpr c52
                                clear c52
                                obtain rfl := Option.some.inj H
                                have p138 : 0 ≤ (x7_4 : Int) := of_decide_eq_true (by first | (with_reducible assumption) | assumption)
                                have q138 : x7_4 < (t122.length : Int) := of_decide_eq_true (by first | (with_reducible assumption) | assumption)
                                obtain ⟨ad138, e138, hx138_0⟩ := Kd.at_string (Kd.R_reads' HO_3.out).2.2 x7_4 p138 q138
                                cases e138
                                replace p138 := eq_true p138
                                replace q138 := eq_true q138
                                go_wp2
                                go_ret
                                exact ⟨by first | rfl | (simp [errW_none, errW_some] <;> rfl) | (simp [*, errW_none, errW_some] <;> rfl), by repeat (first | (with_reducible first | exact HB.out | apply below_alloc | apply pw_below_drewN | apply below_drew1) | exact HB.out)⟩
                              · rw [if_neg c52] at H
                                have c52b0 : ((rdOf ByteArray.empty t122 x7_4).toList == ([] : List UInt8)) = false := beq_eq_false_iff_ne.mpr c52
                                have c52b1 : ((rdOf ByteArray.empty t122 x7_4).toList != ([] : List UInt8)) = true := bne_iff_ne.mpr c52
                                have H' := Aside0.mk H
                                clear H
                                have p138 : 0 ≤ (x7_4 : Int) := of_decide_eq_true (by first | (with_reducible assumption) | assumption)
                                have q138 : x7_4 < (t122.length : Int) := of_decide_eq_true (by first | (with_reducible assumption) | assumption)
                                obtain ⟨ad138, e138, hx138_0⟩ := Kd.at_string (Kd.R_reads' HO_3.out).2.2 x7_4 p138 q138
                                cases e138
                                replace p138 := eq_true p138
                                replace q138 := eq_true q138
                                go_wp2
                                go_loopg [8] k4 (fun kq v8 w' => ∃ (x8_5 : Int), v8 = .int .i64 x8_5 ∧ Aside0 (abacuslaw21_RecordWords.l2 kq a0 t122 x7_4 x8_5 = some r) ∧ Aside0 (kq ≤ k4) ∧ Aside0 (Kd.R Kd.string 9 w' w.heap.size (fun _ => True) (.slice (some ad138) t122.length co18) t122) ∧ Aside0 (Below w.heap.size w w'))
                                case atStart => exact ⟨(0), (by first | rfl | (simp; done) | (simp [*]; done)), H', ⟨Nat.le_refl _⟩, ⟨by (with_reducible repeat (first | apply Kd.R_alloc | apply Kd.R_drewN | apply Kd.R_drew)); exact HO_3.out⟩, ⟨by repeat (first | (with_reducible first | exact HB.out | apply below_alloc | apply pw_below_drewN | apply below_drew1) | exact HB.out)⟩⟩
                                case round =>
                                  clear H'
                                  try clear c1
                                  try clear p1
                                  try clear q1
                                  try clear hx1
                                  try clear qi1
                                  try clear c2
                                  try clear p2
                                  try clear q2
                                  try clear hx2
                                  try clear c3
                                  try clear p3
                                  try clear q3
                                  try clear hx3
                                  try clear c4
                                  try clear hcv4
                                  try clear c5
                                  try clear c5b0
                                  try clear c5b1
                                  try clear c6
                                  try clear c6b0
                                  try clear c6b1
                                  try clear p6
                                  try clear c7
                                  try clear c7b0
                                  try clear c7b1
                                  try clear c8
                                  try clear c8b0
                                  try clear c8b1
                                  try clear c12
                                  try clear p12
                                  try clear q12
                                  try clear hx12
                                  try clear qi12
                                  try clear p13
                                  try clear q13
                                  try clear hx13
                                  try clear c14
                                  try clear c14b0
                                  try clear c14b1
                                  try clear c21
                                  try clear c21b0
                                  try clear c22
                                  try clear c22b0
                                  try clear p23
                                  try clear q23
                                  try clear hx23
                                  try clear c25
                                  try clear p26
                                  try clear q26
                                  try clear hx26
                                  try clear c27
                                  try clear c28
                                  try clear c28b0
                                  try clear c28b1
                                  try clear c31
                                  try clear c31b0
                                  try clear c32
                                  try clear c32b0
                                  try clear p33
                                  try clear q33
                                  try clear hx33
                                  try clear c35
                                  try clear c40
                                  try clear c40b0
                                  try clear c40b1
                                  try clear hcv43
                                  try clear hcv47
                                  try clear c49
                                  try clear c50
                                  try clear c50b0
                                  try clear c51
                                  try clear c51b0
                                  try clear c52
                                  try clear c52b0
                                  try clear c52b1
                                  try clear hx120_0
                                  try clear hx121_0
                                  try clear hx138_0
                                  try clear p1
                                  try clear p12
                                  try clear p120
                                  try clear p121
                                  try clear p138
                                  try clear p2
                                  try clear p23
                                  try clear p26
                                  try clear p3
                                  try clear p33
                                  try clear p6
                                  try clear q1
                                  try clear q12
                                  try clear q120
                                  try clear q121
                                  try clear q138
                                  try clear q2
                                  try clear q23
                                  try clear q26
                                  try clear q3
                                  try clear q33
                                  obtain ⟨x8_5, rfl, HA, HK5, HO_3, HB⟩ := hrel
                                  cases gk with
                                  | zero => exact absurd HA.out (by simp [abacuslaw21_RecordWords.l2])
                                  | succ k5 =>
                                    have H := HA.out
                                    clear HA
                                    simp only [abacuslaw21_RecordWords.l2] at H
                                    by_cases c53 : 0 ≤ x7_4
                                    · rw [if_pos c53] at H
                                      have c53b0 : decide (0 ≤ x7_4) = true := decide_eq_true c53
                                      clear c53
                                      by_cases c54 : x7_4 < (t122.length : Int)
                                      · rw [if_pos c54] at H
                                        have c54b0 : decide (x7_4 < (t122.length : Int)) = true := decide_eq_true c54
                                        clear c54
                                        by_cases c55 : x8_5 < ((rdOf ByteArray.empty t122 x7_4).size : Int)
                                        · rw [if_pos c55] at H
                                          have c55b0 : decide (x8_5 < ((rdOf ByteArray.empty t122 x7_4).size : Int)) = true := decide_eq_true c55
                                          clear c55
                                          by_cases c56 : 0 ≤ x8_5
                                          · rw [if_pos c56] at H
                                            have c56b0 : decide (0 ≤ x8_5) = true := decide_eq_true c56
                                            clear c56
                                            replace H := Option.bind_eq_some_iff.mp H
                                            obtain ⟨t141, A580, H⟩ := H
                                            replace H : (if t141 = true then (some false) else (abacuslaw21_RecordWords.l2 k5 a0 t122 x7_4 (wrap64 (x8_5 + 1)))) = some r := H
                                            have A58 := Aside0.mk A580
                                            clear A580
                                            by_cases c59 : t141 = true
                                            · subst c59
                                              have H1 : (some false) = some r := by rw [if_pos rfl] at H; exact H
                                              clear H
                                              have H := H1
                                              clear H1
                                              obtain rfl := Option.some.inj H
                                              have p139 : 0 ≤ (x7_4 : Int) := of_decide_eq_true (by first | (with_reducible assumption) | assumption)
                                              have q139 : x7_4 < (t122.length : Int) := of_decide_eq_true (by first | (with_reducible assumption) | assumption)
                                              obtain ⟨ad139, e139, hx139_0⟩ := Kd.at_string (Kd.R_reads' HO_3.out).2.2 x7_4 p139 q139
                                              obtain rfl : ad138 = ad139 := (by injection e139)
                                              replace p139 := eq_true p139
                                              replace q139 := eq_true q139
                                              have p140 : 0 ≤ (x7_4 : Int) := of_decide_eq_true (by first | (with_reducible assumption) | assumption)
                                              have q140 : x7_4 < (t122.length : Int) := of_decide_eq_true (by first | (with_reducible assumption) | assumption)
                                              obtain ⟨ad140, e140, hx140_0⟩ := Kd.at_string (Kd.R_reads' HO_3.out).2.2 x7_4 p140 q140
                                              obtain rfl : ad138 = ad140 := (by injection e140)
                                              replace p140 := eq_true p140
                                              replace q140 := eq_true q140
                                              have p57 : 0 ≤ (x8_5 : Int) := of_decide_eq_true (by first | (with_reducible assumption) | assumption)
                                              have q57 : x8_5 < ((rdOf ByteArray.empty t122 x7_4).size : Int) := of_decide_eq_true (by first | (with_reducible assumption) | assumption)
                                              have hx57 := bt_at (rdOf ByteArray.empty t122 x7_4) x8_5
                                              replace p57 := eq_true p57
                                              replace q57 := eq_true q57
                                              go_wp2_with (first | ((with_reducible refine gate_callee (f := 5) rfl ?_); refine goesL_ (some 99) rfl rfl Try.func5 (by kernel_rfl) rfl #[.int .u8 (bt (rdOf ByteArray.empty t122 x7_4) x8_5)] rfl (by (try simp only [List.map_toArray, List.map_cons, List.map_nil]); first | done | rfl | (simp only [List.length_drop, List.length_take]; rfl)) ?_; (with_reducible refine (scan_Blank.calls (bt (rdOf ByteArray.empty t122 x7_4) x8_5) true _ A58.out).mono ?_); rintro e w' ⟨rfl, ⟨nd, rfl⟩⟩; refine ⟨_, rfl, ?_⟩))
                                              go_ret
                                              exact ⟨by first | rfl | (simp [errW_none, errW_some] <;> rfl) | (simp [*, errW_none, errW_some] <;> rfl), by repeat (first | (with_reducible first | exact HB.out | apply below_alloc | apply pw_below_drewN | apply below_drew1) | exact HB.out)⟩
                                            · replace c59 := Bool.eq_false_iff.mpr c59
                                              subst c59
                                              have H1 : (abacuslaw21_RecordWords.l2 k5 a0 t122 x7_4 (wrap64 (x8_5 + 1))) = some r := by rw [if_neg (show ¬ (false = true) by decide)] at H; exact H
                                              clear H
                                              have H := H1
                                              clear H1
                                              have H' := Aside0.mk H
                                              clear H
                                              have p139 : 0 ≤ (x7_4 : Int) := of_decide_eq_true (by first | (with_reducible assumption) | assumption)
                                              have q139 : x7_4 < (t122.length : Int) := of_decide_eq_true (by first | (with_reducible assumption) | assumption)
                                              obtain ⟨ad139, e139, hx139_0⟩ := Kd.at_string (Kd.R_reads' HO_3.out).2.2 x7_4 p139 q139
                                              obtain rfl : ad138 = ad139 := (by injection e139)
                                              replace p139 := eq_true p139
                                              replace q139 := eq_true q139
                                              have p140 : 0 ≤ (x7_4 : Int) := of_decide_eq_true (by first | (with_reducible assumption) | assumption)
                                              have q140 : x7_4 < (t122.length : Int) := of_decide_eq_true (by first | (with_reducible assumption) | assumption)
                                              obtain ⟨ad140, e140, hx140_0⟩ := Kd.at_string (Kd.R_reads' HO_3.out).2.2 x7_4 p140 q140
                                              obtain rfl : ad138 = ad140 := (by injection e140)
                                              replace p140 := eq_true p140
                                              replace q140 := eq_true q140
                                              have p57 : 0 ≤ (x8_5 : Int) := of_decide_eq_true (by first | (with_reducible assumption) | assumption)
                                              have q57 : x8_5 < ((rdOf ByteArray.empty t122 x7_4).size : Int) := of_decide_eq_true (by first | (with_reducible assumption) | assumption)
                                              have hx57 := bt_at (rdOf ByteArray.empty t122 x7_4) x8_5
                                              replace p57 := eq_true p57
                                              replace q57 := eq_true q57
                                              go_wp2_with (first | ((with_reducible refine gate_callee (f := 5) rfl ?_); refine goesL_ (some 99) rfl rfl Try.func5 (by kernel_rfl) rfl #[.int .u8 (bt (rdOf ByteArray.empty t122 x7_4) x8_5)] rfl (by (try simp only [List.map_toArray, List.map_cons, List.map_nil]); first | done | rfl | (simp only [List.length_drop, List.length_take]; rfl)) ?_; (with_reducible refine (scan_Blank.calls (bt (rdOf ByteArray.empty t122 x7_4) x8_5) false _ A58.out).mono ?_); rintro e w' ⟨rfl, ⟨nd, rfl⟩⟩; refine ⟨_, rfl, ?_⟩))
                                              go_roundg k5
                                              case measure => have := HJ2.out; have := HK2.out; have := HJ37.out; have := HK4.out; have := HK5.out; omega
                                              case rel => exact ⟨(wrap64 (x8_5 + 1)), (by first | rfl | (simp; done) | (simp [*]; done)), H', ⟨by have := HJ2.out; have := HK2.out; have := HJ37.out; have := HK4.out; have := HK5.out; omega⟩, ⟨by (with_reducible repeat (first | apply Kd.R_alloc | apply Kd.R_drewN | apply Kd.R_drew)); exact HO_3.out⟩, ⟨by repeat (first | (with_reducible first | exact HB.out | apply below_alloc | apply pw_below_drewN | apply below_drew1) | exact HB.out)⟩⟩
                                          · rw [if_neg c56] at H
                                            exact absurd H (by simp)
                                        · rw [if_neg c55] at H
                                          have c55b0 : decide (x8_5 < ((rdOf ByteArray.empty t122 x7_4).size : Int)) = false := decide_eq_false c55
                                          clear c55
                                          have H' := Aside0.mk H
                                          clear H
                                          have p139 : 0 ≤ (x7_4 : Int) := of_decide_eq_true (by first | (with_reducible assumption) | assumption)
                                          have q139 : x7_4 < (t122.length : Int) := of_decide_eq_true (by first | (with_reducible assumption) | assumption)
                                          obtain ⟨ad139, e139, hx139_0⟩ := Kd.at_string (Kd.R_reads' HO_3.out).2.2 x7_4 p139 q139
                                          obtain rfl : ad138 = ad139 := (by injection e139)
                                          replace p139 := eq_true p139
                                          replace q139 := eq_true q139
                                          go_wp2
                                          go_roundg k5
                                          case measure => have := HJ2.out; have := HK2.out; have := HJ37.out; have := HK4.out; have := HK5.out; omega
                                          case rel => exact ⟨(wrap64 (x7_4 + 1)), (by first | rfl | (simp; done) | (simp [*]; done)), H', ⟨by have := HJ2.out; have := HK2.out; have := HJ37.out; have := HK4.out; have := HK5.out; omega⟩, ⟨by (with_reducible repeat (first | apply Kd.R_alloc | apply Kd.R_drewN | apply Kd.R_drew)); exact HO_3.out⟩, ⟨by repeat (first | (with_reducible first | exact HB.out | apply below_alloc | apply pw_below_drewN | apply below_drew1) | exact HB.out)⟩⟩
                                      · rw [if_neg c54] at H
                                        exact absurd H (by simp)
                                    · rw [if_neg c53] at H
                                      exact absurd H (by simp)
                            · rw [if_neg c51] at H
                              exact absurd H (by simp)
                          · rw [if_neg c50] at H
                            have c50b0 : decide (x7_4 < (t122.length : Int)) = false := decide_eq_false c50
                            clear c50
                            by_cases c60 : 3 + a0.size ≤ 9223372036854775807
                            · rw [if_pos c60] at H
                              have c60b0 := eq_true c60
                              have c60b1 : decide (3 + a0.size ≤ 9223372036854775807) = true := decide_eq_true c60
                              try have c60b2 : (9223372036854775807 < 3 + a0.size) = False := eq_false (Nat.not_lt.2 c60)
                              by_cases c61 : ((⟨#[32, 9, 13]⟩ : ByteArray) ++ a0).size + 4 ≤ 9223372036854775807
                              · rw [if_pos c61] at H
                                have c61b0 := eq_true c61
                                have c61b1 : decide (((⟨#[32, 9, 13]⟩ : ByteArray) ++ a0).size + 4 ≤ 9223372036854775807) = true := decide_eq_true c61
                                try have c61b2 : (9223372036854775807 < ((⟨#[32, 9, 13]⟩ : ByteArray) ++ a0).size + 4) = False := eq_false (Nat.not_lt.2 c61)
                                have c61b3 : (9223372036854775807 < 3 + a0.size + 4) = False := eq_false (Nat.not_lt.2 (by rw [ByteArray.size_append] at c61; exact c61))
                                replace H := Option.bind_eq_some_iff.mp H
                                obtain ⟨t134, A620, H⟩ := H
                                replace H : ((abacuslaw21_sameTexts.f k4 t122 t134).bind fun t137 => (some t137)) = some r := H
                                have A62 := Aside0.mk A620
                                clear A620
                                replace H := Option.bind_eq_some_iff.mp H
                                obtain ⟨t137, A630, H⟩ := H
                                replace H : (some t137) = some r := H
                                have A63 := Aside0.mk A630
                                clear A630
                                obtain rfl := Option.some.inj H
                                go_wp2_with (first | ((with_reducible refine gate_callee (f := 4) rfl ?_); refine goesL_ (some 103) rfl rfl Try.func4 (by kernel_rfl) rfl #[.string (((⟨#[32, 9, 13]⟩ : ByteArray) ++ a0) ++ (⟨#[11, 12, 10, 32]⟩ : ByteArray)), .string (⟨#[32]⟩ : ByteArray)] rfl (by (try simp only [List.map_toArray, List.map_cons, List.map_nil]); first | done | rfl | (simp only [List.length_drop, List.length_take]; rfl)) ?_; (with_reducible refine (record_Fields.calls (((⟨#[32, 9, 13]⟩ : ByteArray) ++ a0) ++ (⟨#[11, 12, 10, 32]⟩ : ByteArray)) (⟨#[32]⟩ : ByteArray) t134 _ A62.out).mono ?_); rintro e w64 ⟨v135, rfl, ho0, hb⟩; refine ⟨_, rfl, ?_⟩; have n0_ := Aside0.mk (Kd.R_elder' (by (with_reducible repeat (first | apply Kd.R_alloc | apply Kd.R_drewN | apply Kd.R_drew)); exact HO_3.out) (Kd.R_base ho0) hb); have n1_ := Aside0.mk (Kd.R_lower (Kd.R_new' ho0 (Kd.R_lt (by (with_reducible repeat (first | apply Kd.R_alloc | apply Kd.R_drewN | apply Kd.R_drew)); exact HO_3.out))) (below_size (by repeat (first | (with_reducible first | exact HB.out | apply below_alloc | apply pw_below_drewN | apply below_drew1) | exact HB.out)))); have n2_ := Aside0.mk (below_step (by repeat (first | (with_reducible first | exact HB.out | apply below_alloc | apply pw_below_drewN | apply below_drew1) | exact HB.out)) hb); clear HO_3; clear HB; have HO_3 := n0_; have HO136 := n1_; have HB := n2_; clear n0_ n1_ n2_; (try clear hb); (try clear hb2); (try clear hk); (try clear hi); (try clear ho0); obtain ⟨Ao65, co65, eo65⟩ := Kd.R_slice HO136.out; subst eo65) | ((with_reducible refine gate_callee (f := 7) rfl ?_); refine goesL_ (some 106) rfl rfl Try.func7 (by kernel_rfl) rfl #[.slice Ao18 t122.length co18, .slice Ao65 t134.length co65] rfl (by (try simp only [List.map_toArray, List.map_cons, List.map_nil]); first | done | rfl | (simp only [List.length_drop, List.length_take]; rfl)) ?_; (with_reducible refine (abacuslaw21_sameTexts.calls k4 _ _ t122 _ _ t134 t137 _ ?side1 ?side2 ?side3 ?side4 A63.out).mono ?_); (case side1 => repeat (first | exact (Kd.R_reads' HO_3.out).2.2 | (with_reducible refine Kd.C_alloc ?_ _) | (with_reducible refine Kd.C_drewN ?_ _) | (with_reducible refine Kd.C_drew ?_))); (case side2 => exact (Kd.R_reads' HO_3.out).2.1); (case side3 => repeat (first | exact (Kd.R_reads' HO136.out).2.2 | (with_reducible refine Kd.C_alloc ?_ _) | (with_reducible refine Kd.C_drewN ?_ _) | (with_reducible refine Kd.C_drew ?_))); (case side4 => exact (Kd.R_reads' HO136.out).2.1); rintro e w' ⟨rfl, ⟨nd, rfl⟩⟩; refine ⟨_, rfl, ?_⟩))
                                go_ret
                                exact ⟨by first | rfl | (simp [errW_none, errW_some] <;> rfl) | (simp [*, errW_none, errW_some] <;> rfl), by repeat (first | (with_reducible first | exact HB.out | apply below_alloc | apply pw_below_drewN | apply below_drew1) | exact HB.out)⟩
                              · rw [if_neg c61] at H
                                exact absurd H (by simp)
                            · rw [if_neg c60] at H
                              exact absurd H (by simp)

/-- THE ONE PURE STATEMENT of abacuslaw21_RecordWords: yours. -/
def abacuslaw21_RecordWords.Pure : Prop := ∀ (a0 : ByteArray), a0.size ≤ 140737488351232 → ∃ k, abacuslaw21_RecordWords.f k a0 = some true
theorem abacuslaw21_RecordWords.walk (P : abacuslaw21_RecordWords.Pure) (a0 : ByteArray) (w : World) (w0 : a0.size ≤ 140737488351232) :
    Calls Try.prog 3 #[.string a0] w fun e w' => e = .returned (.bool true) ∧ Below w.heap.size w w' := by
  obtain ⟨k, h⟩ := P a0 w0
  refine (abacuslaw21_RecordWords.calls k a0 true w h).mono ?_
  rintro e w' ⟨rfl, hd⟩
  exact ⟨rfl, hd⟩

end Go.Proofs.Ytlklnenlhmhcaaa.PRecordWords
