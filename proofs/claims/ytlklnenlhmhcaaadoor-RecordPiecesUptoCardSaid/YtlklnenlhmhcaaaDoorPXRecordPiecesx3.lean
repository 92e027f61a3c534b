/- The machine's side of a law, printed by a program of this session out of the translation; conditions: none. -/
import Derived.Test.YtlklnenlhmhcaaaDoorPXRecordPiecesx0
import Derived.Test.YtlklnenlhmhcaaaDoorPXRecordPiecesx1
import Derived.Test.YtlklnenlhmhcaaaDoorPXRecordPiecesx2
namespace Go.Proofs.YtlklnenlhmhcaaaDoor.PXRecordPieces
open Go.Proofs.YtlklnenlhmhcaaaDoor
open Go.RowKit Go.Proofs.YtlklnenlhmhcaaaDoorW.PrintWords Go.Proofs.YtlklnenlhmhcaaaDoorW.PrintLast Go.Proofs.YtlklnenlhmhcaaaDoorW.PrintMore
attribute [local go_sem] max2_int min2_int max_two min_two max_three min_three max_four min_four   -- for this text's walks alone
set_option linter.unusedVariables false
set_option linter.unusedSimpArgs false

/-! ### abacuslaw21_RecordPieces: function 3 -/
mutual
def abacuslaw21_RecordPieces.j0 : Nat → ByteArray → ByteArray → Bool → Option (Bool)
  | 0, _, _, _ => none
  | k + 1, x0, x1, x29 => if x29 = true then (some false) else ((record_Fields.f x0 x1).bind fun t141 => (if x1.toList = ([32] : List UInt8) then (abacuslaw21_RecordPieces.j1 k x0 x1 t141 true) else (abacuslaw21_RecordPieces.j1 k x0 x1 t141 (x0.toList == ([] : List UInt8)))))
def abacuslaw21_RecordPieces.j1 : Nat → ByteArray → ByteArray → List ByteArray → Bool → Option (Bool)
  | 0, _, _, _, _ => none
  | k + 1, x0, x1, x5, x38 => if x38 = true then (if x1.toList = ([32] : List UInt8) then (some true) else (some ((x5.length : Int) == 0))) else (if (x5.length : Int) = 0 then (abacuslaw21_RecordPieces.j2 k x0 x1 x5 true) else (if (x5.length : Int) > 32768 then (abacuslaw21_RecordPieces.j2 k x0 x1 x5 true) else ((abacuslaw21_joined.f k x5 x1).bind fun t144 => (abacuslaw21_RecordPieces.j2 k x0 x1 x5 (t144.toList != x0.toList)))))
def abacuslaw21_RecordPieces.j2 : Nat → ByteArray → ByteArray → List ByteArray → Bool → Option (Bool)
  | 0, _, _, _, _ => none
  | k + 1, x0, x1, x5, x60 => if x60 = true then (some false) else (abacuslaw21_RecordPieces.l0 k x0 x1 x5 0)
def abacuslaw21_RecordPieces.l0 : Nat → ByteArray → ByteArray → List ByteArray → Int → Option (Bool)
  | 0, _, _, _, _ => none
  | k + 1, x0, x1, x5, x6 => if x6 < (x5.length : Int) then (abacuslaw21_RecordPieces.j4 k x0 x1 x5 x6 (decide (x6 < 32767))) else (abacuslaw21_RecordPieces.j4 k x0 x1 x5 x6 false)
def abacuslaw21_RecordPieces.j4 : Nat → ByteArray → ByteArray → List ByteArray → Int → Bool → Option (Bool)
  | 0, _, _, _, _, _ => none
  | k + 1, x0, x1, x5, x6, x68 => if x68 = true then (if x1.toList = ([] : List UInt8) then (if 0 ≤ x6 then (if x6 < (x5.length : Int) then (if ((rdOf ByteArray.empty x5 x6).size : Int) = 1 then (abacuslaw21_RecordPieces.l0 k x0 x1 x5 (wrap64 (x6 + 1))) else (some false)) else (none)) else (none)) else (if 0 ≤ x6 then (if x6 < (x5.length : Int) then ((abacuslaw21_holds.f k (rdOf ByteArray.empty x5 x6) x1).bind fun t147 => (if t147 = true then (some false) else (abacuslaw21_RecordPieces.l0 k x0 x1 x5 (wrap64 (x6 + 1))))) else (none)) else (none))) else ((chars_Split.f k x0 x1).bind fun t148 => (if (t148.length : Int) > 32768 then (some true) else ((abacuslaw21_sameTexts.f k x5 t148).bind fun t151 => (some t151))))
end
def abacuslaw21_RecordPieces.f (k : Nat) (a0 : ByteArray) (a1 : ByteArray) : Option (Bool) := (record_Fields.f (⟨#[97, 44, 44, 98, 44]⟩ : ByteArray) (⟨#[44]⟩ : ByteArray)).bind fun t135 => (if (t135.length : Int) = 4 then (if 0 < (t135.length : Int) then (if (rdOf ByteArray.empty t135 0).toList = ([97] : List UInt8) then (if 1 < (t135.length : Int) then (if (rdOf ByteArray.empty t135 1).toList = ([] : List UInt8) then (if 3 < (t135.length : Int) then (abacuslaw21_RecordPieces.j0 k a0 a1 ((rdOf ByteArray.empty t135 3).toList != ([] : List UInt8))) else (none)) else (abacuslaw21_RecordPieces.j0 k a0 a1 true)) else (none)) else (abacuslaw21_RecordPieces.j0 k a0 a1 true)) else (none)) else (abacuslaw21_RecordPieces.j0 k a0 a1 true))
theorem abacuslaw21_RecordPieces.mono_l : ∀ k, (∀ y0 y1 y2, LeO (abacuslaw21_RecordPieces.j0 k y0 y1 y2) (abacuslaw21_RecordPieces.j0 (k + 1) y0 y1 y2)) ∧ (∀ y0 y1 y2 y3, LeO (abacuslaw21_RecordPieces.j1 k y0 y1 y2 y3) (abacuslaw21_RecordPieces.j1 (k + 1) y0 y1 y2 y3)) ∧ (∀ y0 y1 y2 y3, LeO (abacuslaw21_RecordPieces.j2 k y0 y1 y2 y3) (abacuslaw21_RecordPieces.j2 (k + 1) y0 y1 y2 y3)) ∧ (∀ y0 y1 y2 y3, LeO (abacuslaw21_RecordPieces.l0 k y0 y1 y2 y3) (abacuslaw21_RecordPieces.l0 (k + 1) y0 y1 y2 y3)) ∧ (∀ y0 y1 y2 y3 y4, LeO (abacuslaw21_RecordPieces.j4 k y0 y1 y2 y3 y4) (abacuslaw21_RecordPieces.j4 (k + 1) y0 y1 y2 y3 y4))
  | 0 => ⟨fun _ _ _ r h => by simp [abacuslaw21_RecordPieces.j0] at h, fun _ _ _ _ r h => by simp [abacuslaw21_RecordPieces.j1] at h, fun _ _ _ _ r h => by simp [abacuslaw21_RecordPieces.j2] at h, fun _ _ _ _ r h => by simp [abacuslaw21_RecordPieces.l0] at h, fun _ _ _ _ _ r h => by simp [abacuslaw21_RecordPieces.j4] at h⟩
  | k + 1 => by
    obtain ⟨ih0, ih1, ih2, ih3, ih4⟩ := abacuslaw21_RecordPieces.mono_l k
    refine ⟨?_, ?_, ?_, ?_, ?_⟩
    · intro y0 y1 y2
      unfold abacuslaw21_RecordPieces.j0
      repeat' first
      | (with_reducible exact ih0 _ _ _)
      | (with_reducible exact ih1 _ _ _ _)
      | (with_reducible exact ih2 _ _ _ _)
      | (with_reducible exact ih3 _ _ _ _)
      | (with_reducible exact ih4 _ _ _ _ _)
      | (with_reducible exact abacuslaw21_holds.mono _ _ _)
      | (with_reducible exact abacuslaw21_joined.mono _ _ _)
      | (with_reducible exact abacuslaw21_sameTexts.mono _ _ _)
      | (with_reducible exact chars_Split.mono _ _ _)
      | (with_reducible exact LeO.refl _)
      | (with_reducible exact LeO.none _)
      | (with_reducible refine LeO.ite ?_ ?_)
      | (with_reducible refine LeO.bind ?_ (fun _ => ?_))
      | exact ih0 _ _ _
      | exact ih1 _ _ _ _
      | exact ih2 _ _ _ _
      | exact ih3 _ _ _ _
      | exact ih4 _ _ _ _ _
      | exact abacuslaw21_holds.mono _ _ _
      | exact abacuslaw21_joined.mono _ _ _
      | exact abacuslaw21_sameTexts.mono _ _ _
      | exact chars_Split.mono _ _ _
      | exact LeO.none _
      | refine LeO.ite ?_ ?_
      | refine LeO.bind ?_ (fun _ => ?_)
    · intro y0 y1 y2 y3
      unfold abacuslaw21_RecordPieces.j1
      repeat' first
      | (with_reducible exact ih0 _ _ _)
      | (with_reducible exact ih1 _ _ _ _)
      | (with_reducible exact ih2 _ _ _ _)
      | (with_reducible exact ih3 _ _ _ _)
      | (with_reducible exact ih4 _ _ _ _ _)
      | (with_reducible exact abacuslaw21_holds.mono _ _ _)
      | (with_reducible exact abacuslaw21_joined.mono _ _ _)
      | (with_reducible exact abacuslaw21_sameTexts.mono _ _ _)
      | (with_reducible exact chars_Split.mono _ _ _)
      | (with_reducible exact LeO.refl _)
      | (with_reducible exact LeO.none _)
      | (with_reducible refine LeO.ite ?_ ?_)
      | (with_reducible refine LeO.bind ?_ (fun _ => ?_))
      | exact ih0 _ _ _
      | exact ih1 _ _ _ _
      | exact ih2 _ _ _ _
      | exact ih3 _ _ _ _
      | exact ih4 _ _ _ _ _
      | exact abacuslaw21_holds.mono _ _ _
      | exact abacuslaw21_joined.mono _ _ _
      | exact abacuslaw21_sameTexts.mono _ _ _
      | exact chars_Split.mono _ _ _
      | exact LeO.none _
      | refine LeO.ite ?_ ?_
      | refine LeO.bind ?_ (fun _ => ?_)
    · intro y0 y1 y2 y3
      unfold abacuslaw21_RecordPieces.j2
      repeat' first
      | (with_reducible exact ih0 _ _ _)
      | (with_reducible exact ih1 _ _ _ _)
      | (with_reducible exact ih2 _ _ _ _)
      | (with_reducible exact ih3 _ _ _ _)
      | (with_reducible exact ih4 _ _ _ _ _)
      | (with_reducible exact abacuslaw21_holds.mono _ _ _)
      | (with_reducible exact abacuslaw21_joined.mono _ _ _)
      | (with_reducible exact abacuslaw21_sameTexts.mono _ _ _)
      | (with_reducible exact chars_Split.mono _ _ _)
      | (with_reducible exact LeO.refl _)
      | (with_reducible exact LeO.none _)
      | (with_reducible refine LeO.ite ?_ ?_)
      | (with_reducible refine LeO.bind ?_ (fun _ => ?_))
      | exact ih0 _ _ _
      | exact ih1 _ _ _ _
      | exact ih2 _ _ _ _
      | exact ih3 _ _ _ _
      | exact ih4 _ _ _ _ _
      | exact abacuslaw21_holds.mono _ _ _
      | exact abacuslaw21_joined.mono _ _ _
      | exact abacuslaw21_sameTexts.mono _ _ _
      | exact chars_Split.mono _ _ _
      | exact LeO.none _
      | refine LeO.ite ?_ ?_
      | refine LeO.bind ?_ (fun _ => ?_)
    · intro y0 y1 y2 y3
      unfold abacuslaw21_RecordPieces.l0
      repeat' first
      | (with_reducible exact ih0 _ _ _)
      | (with_reducible exact ih1 _ _ _ _)
      | (with_reducible exact ih2 _ _ _ _)
      | (with_reducible exact ih3 _ _ _ _)
      | (with_reducible exact ih4 _ _ _ _ _)
      | (with_reducible exact abacuslaw21_holds.mono _ _ _)
      | (with_reducible exact abacuslaw21_joined.mono _ _ _)
      | (with_reducible exact abacuslaw21_sameTexts.mono _ _ _)
      | (with_reducible exact chars_Split.mono _ _ _)
      | (with_reducible exact LeO.refl _)
      | (with_reducible exact LeO.none _)
      | (with_reducible refine LeO.ite ?_ ?_)
      | (with_reducible refine LeO.bind ?_ (fun _ => ?_))
      | exact ih0 _ _ _
      | exact ih1 _ _ _ _
      | exact ih2 _ _ _ _
      | exact ih3 _ _ _ _
      | exact ih4 _ _ _ _ _
      | exact abacuslaw21_holds.mono _ _ _
      | exact abacuslaw21_joined.mono _ _ _
      | exact abacuslaw21_sameTexts.mono _ _ _
      | exact chars_Split.mono _ _ _
      | exact LeO.none _
      | refine LeO.ite ?_ ?_
      | refine LeO.bind ?_ (fun _ => ?_)
    · intro y0 y1 y2 y3 y4
      unfold abacuslaw21_RecordPieces.j4
      repeat' first
      | (with_reducible exact ih0 _ _ _)
      | (with_reducible exact ih1 _ _ _ _)
      | (with_reducible exact ih2 _ _ _ _)
      | (with_reducible exact ih3 _ _ _ _)
      | (with_reducible exact ih4 _ _ _ _ _)
      | (with_reducible exact abacuslaw21_holds.mono _ _ _)
      | (with_reducible exact abacuslaw21_joined.mono _ _ _)
      | (with_reducible exact abacuslaw21_sameTexts.mono _ _ _)
      | (with_reducible exact chars_Split.mono _ _ _)
      | (with_reducible exact LeO.refl _)
      | (with_reducible exact LeO.none _)
      | (with_reducible refine LeO.ite ?_ ?_)
      | (with_reducible refine LeO.bind ?_ (fun _ => ?_))
      | exact ih0 _ _ _
      | exact ih1 _ _ _ _
      | exact ih2 _ _ _ _
      | exact ih3 _ _ _ _
      | exact ih4 _ _ _ _ _
      | exact abacuslaw21_holds.mono _ _ _
      | exact abacuslaw21_joined.mono _ _ _
      | exact abacuslaw21_sameTexts.mono _ _ _
      | exact chars_Split.mono _ _ _
      | exact LeO.none _
      | refine LeO.ite ?_ ?_
      | refine LeO.bind ?_ (fun _ => ?_)
theorem abacuslaw21_RecordPieces.mono : ∀ a0 a1 k, LeO (abacuslaw21_RecordPieces.f k a0 a1) (abacuslaw21_RecordPieces.f (k + 1) a0 a1) := by
  intro a0 a1 k
  obtain ⟨ih0, ih1, ih2, ih3, ih4⟩ := abacuslaw21_RecordPieces.mono_l k
  unfold abacuslaw21_RecordPieces.f
  repeat' first
      | (with_reducible exact ih0 _ _ _)
      | (with_reducible exact ih1 _ _ _ _)
      | (with_reducible exact ih2 _ _ _ _)
      | (with_reducible exact ih3 _ _ _ _)
      | (with_reducible exact ih4 _ _ _ _ _)
      | (with_reducible exact abacuslaw21_holds.mono _ _ _)
      | (with_reducible exact abacuslaw21_joined.mono _ _ _)
      | (with_reducible exact abacuslaw21_sameTexts.mono _ _ _)
      | (with_reducible exact chars_Split.mono _ _ _)
      | (with_reducible exact LeO.refl _)
      | (with_reducible exact LeO.none _)
      | (with_reducible refine LeO.ite ?_ ?_)
      | (with_reducible refine LeO.bind ?_ (fun _ => ?_))
      | exact ih0 _ _ _
      | exact ih1 _ _ _ _
      | exact ih2 _ _ _ _
      | exact ih3 _ _ _ _
      | exact ih4 _ _ _ _ _
      | exact abacuslaw21_holds.mono _ _ _
      | exact abacuslaw21_joined.mono _ _ _
      | exact abacuslaw21_sameTexts.mono _ _ _
      | exact chars_Split.mono _ _ _
      | exact LeO.none _
      | refine LeO.ite ?_ ?_
      | refine LeO.bind ?_ (fun _ => ?_)
set_option maxHeartbeats 8000000 in
set_option maxRecDepth 100000 in
theorem abacuslaw21_RecordPieces.calls (k : Nat) (a0 : ByteArray) (a1 : ByteArray) (r : Bool) (w : World) (h : abacuslaw21_RecordPieces.f k a0 a1 = some r) (HG : Aside0 (GW w) := by first | exact HG | exact ⟨GW.below HG.out (by repeat (first | (with_reducible first | exact HB.out | apply below_alloc | apply pw_below_drewN | apply below_drew1) | exact HB.out))⟩ | exact ⟨GW.drewN HG.out _⟩ | exact ⟨GW.drew HG.out⟩ | exact ⟨GW.drewN (GW.drewN HG.out _) _⟩ | exact ⟨GW.drewN (GW.drew HG.out) _⟩) :
    Calls Tryd.prog 3 #[.string a0, .string a1] w fun e w' => e = .returned (.bool r) ∧ Below w.heap.size w w' := by
  have HB := Aside0.mk (Below.refl w.heap.size w)
  have H : ((record_Fields.f (⟨#[97, 44, 44, 98, 44]⟩ : ByteArray) (⟨#[44]⟩ : ByteArray)).bind fun t135 => (if (t135.length : Int) = 4 then (if 0 < (t135.length : Int) then (if (rdOf ByteArray.empty t135 0).toList = ([97] : List UInt8) then (if 1 < (t135.length : Int) then (if (rdOf ByteArray.empty t135 1).toList = ([] : List UInt8) then (if 3 < (t135.length : Int) then (abacuslaw21_RecordPieces.j0 k a0 a1 ((rdOf ByteArray.empty t135 3).toList != ([] : List UInt8))) else (none)) else (abacuslaw21_RecordPieces.j0 k a0 a1 true)) else (none)) else (abacuslaw21_RecordPieces.j0 k a0 a1 true)) else (none)) else (abacuslaw21_RecordPieces.j0 k a0 a1 true))) = some r := h
  clear h
  replace H := Option.bind_eq_some_iff.mp H
  obtain ⟨t135, A30, H⟩ := H
  replace H : (if (t135.length : Int) = 4 then (if 0 < (t135.length : Int) then (if (rdOf ByteArray.empty t135 0).toList = ([97] : List UInt8) then (if 1 < (t135.length : Int) then (if (rdOf ByteArray.empty t135 1).toList = ([] : List UInt8) then (if 3 < (t135.length : Int) then (abacuslaw21_RecordPieces.j0 k a0 a1 ((rdOf ByteArray.empty t135 3).toList != ([] : List UInt8))) else (none)) else (abacuslaw21_RecordPieces.j0 k a0 a1 true)) else (none)) else (abacuslaw21_RecordPieces.j0 k a0 a1 true)) else (none)) else (abacuslaw21_RecordPieces.j0 k a0 a1 true)) = some r := H
  have A3 := Aside0.mk A30
  clear A30
  have HC4 := Aside0.mk H
  clear H
  go_enter Tryd.func3, Tryd.ntmps3
  go_upto_region 2 with (first | ((with_reducible refine gate_callee (f := 4) rfl ?_); refine goesL_ (some 8) rfl rfl Tryd.func4 (by kernel_rfl) rfl #[.string (⟨#[97, 44, 44, 98, 44]⟩ : ByteArray), .string (⟨#[44]⟩ : ByteArray)] rfl (by (try simp only [List.map_toArray, List.map_cons, List.map_nil]); first | done | rfl | (simp only [List.length_drop, List.length_take]; rfl)) ?_; (with_reducible refine (record_Fields.calls (⟨#[97, 44, 44, 98, 44]⟩ : ByteArray) (⟨#[44]⟩ : ByteArray) t135 _ A3.out).mono ?_); rintro e w5 ⟨v136, rfl, ho0, hb⟩; refine ⟨_, rfl, ?_⟩; have n0_ := Aside0.mk (Kd.R_lower ho0 (below_size (by repeat (first | (with_reducible first | exact HB.out | apply below_alloc | apply pw_below_drewN | apply below_drew1) | exact HB.out)))); have n1_ := Aside0.mk (below_step (by repeat (first | (with_reducible first | exact HB.out | apply below_alloc | apply pw_below_drewN | apply below_drew1) | exact HB.out)) hb); clear HB; have HO137 := n0_; have HB := n1_; clear n0_ n1_; (try clear hb); (try clear hb2); (try clear hk); (try clear hi); (try clear ho0)))
  (try simp only [Act.put, List.setIfInBounds_toArray, List.set_cons_zero, List.set_cons_succ])
  go_cut [29] (fun v29 wc => ∃ (kq : Nat) (x29_3 : Bool), v29 = .bool x29_3 ∧ Aside0 (abacuslaw21_RecordPieces.j0 kq a0 a1 x29_3 = some r) ∧ Aside0 (kq ≤ k) ∧ Aside0 (Below w.heap.size w wc))
  case first =>
    have H := HC4.out
    clear HC4
    by_cases c6 : (t135.length : Int) = 4
    · rw [if_pos c6] at H
      have c6b0 : ((t135.length : Int) == 4) = true := beq_iff_eq.mpr c6
      have c6b1 : ((t135.length : Int) != 4) = false := bne_eq_false_iff_eq.mpr c6
      clear c6
      (first | rw [c6b0] | (simp only [i64_w, i32_w]; rw [c6b0]) | skip)
      by_cases c7 : 0 < (t135.length : Int)
      · rw [if_pos c7] at H
        have c7b0 : decide (0 < (t135.length : Int)) = true := decide_eq_true c7
        have c7b1 : decide (0 < t135.length) = true := decide_eq_true (by omega)
        clear c7
        by_cases c8 : (rdOf ByteArray.empty t135 0).toList = ([97] : List UInt8)
        · rw [if_pos c8] at H
          have c8b0 : ((rdOf ByteArray.empty t135 0).toList == ([97] : List UInt8)) = true := beq_iff_eq.mpr c8
          have c8b1 : ((rdOf ByteArray.empty t135 0).toList != ([97] : List UInt8)) = false := bne_eq_false_iff_eq.mpr c8
          clear c8
          by_cases c9 : 1 < (t135.length : Int)
          · rw [if_pos c9] at H
            have c9b0 : decide (1 < (t135.length : Int)) = true := decide_eq_true c9
            have c9b1 : decide (1 < t135.length) = true := decide_eq_true (by omega)
            clear c9
            by_cases c10 : (rdOf ByteArray.empty t135 1).toList = ([] : List UInt8)
            · rw [if_pos c10] at H
              have c10b0 : ((rdOf ByteArray.empty t135 1).toList == ([] : List UInt8)) = true := beq_iff_eq.mpr c10
              have c10b1 : ((rdOf ByteArray.empty t135 1).toList != ([] : List UInt8)) = false := bne_eq_false_iff_eq.mpr c10
              clear c10
              by_cases c11 : 3 < (t135.length : Int)
              · rw [if_pos c11] at H
                have c11b0 : decide (3 < (t135.length : Int)) = true := decide_eq_true c11
                have c11b1 : decide (3 < t135.length) = true := decide_eq_true (by omega)
                clear c11
                have H' := Aside0.mk H
                clear H
                obtain ⟨Ao12, co12, eo12⟩ := Kd.R_slice HO137.out
                subst eo12
                have p138 : 0 ≤ (0 : Int) := (by omega)
                have q138 : 0 < (t135.length : Int) := of_decide_eq_true (by first | (with_reducible assumption) | assumption)
                obtain ⟨ad138, e138, hx138_0⟩ := Kd.at_string (Kd.R_reads' HO137.out).2.2 0 p138 q138
                cases e138
                have qi138 : (0 < t135.length) = True := eq_true (by omega)
                (try rw [show ((0 : Int)).toNat = 0 from rfl] at hx138_0)
                (try rw [Addr.add_zero'] at hx138_0)
                replace p138 := eq_true p138
                replace q138 := eq_true q138
                have p139 : 0 ≤ (1 : Int) := (by omega)
                have q139 : 1 < (t135.length : Int) := of_decide_eq_true (by first | (with_reducible assumption) | assumption)
                obtain ⟨ad139, e139, hx139_0⟩ := Kd.at_string (Kd.R_reads' HO137.out).2.2 1 p139 q139
                obtain rfl : ad138 = ad139 := (by injection e139)
                (try simp only [show (1 : Int).toNat = 1 from rfl, Nat.reduceMul, Nat.reduceEqDiff, Go.Addr.add, ↓reduceIte] at hx139_0)
                have qi139 : (1 < t135.length) = True := eq_true (by omega)
                (try rw [show ((1 : Int)).toNat = 1 from rfl] at hx139_0)
                replace p139 := eq_true p139
                replace q139 := eq_true q139
                have p140 : 0 ≤ (3 : Int) := (by omega)
                have q140 : 3 < (t135.length : Int) := of_decide_eq_true (by first | (with_reducible assumption) | assumption)
                obtain ⟨ad140, e140, hx140_0⟩ := Kd.at_string (Kd.R_reads' HO137.out).2.2 3 p140 q140
                obtain rfl : ad138 = ad140 := (by injection e140)
                (try simp only [show (3 : Int).toNat = 3 from rfl, Nat.reduceMul, Nat.reduceEqDiff, Go.Addr.add, ↓reduceIte] at hx140_0)
                have qi140 : (3 < t135.length) = True := eq_true (by omega)
                (try rw [show ((3 : Int)).toNat = 3 from rfl] at hx140_0)
                replace p140 := eq_true p140
                replace q140 := eq_true q140
                go_wp2
                go_meet
                case rel => exact ⟨_, (((rdOf ByteArray.empty t135 3).toList != ([] : List UInt8))), (by first | rfl | (simp; done) | (simp [*]; done) | (cases (rdOf ByteArray.empty t135 3).toList <;> rfl)), H', ⟨by first | omega | exact Nat.le_refl _⟩, ⟨by repeat (first | (with_reducible first | exact HB.out | apply below_alloc | apply pw_below_drewN | apply below_drew1) | exact HB.out)⟩⟩
              · rw [if_neg c11] at H
                exact absurd H (by simp)
            · rw [if_neg c10] at H
              have c10b0 : ((rdOf ByteArray.empty t135 1).toList == ([] : List UInt8)) = false := beq_eq_false_iff_ne.mpr c10
              have c10b1 : ((rdOf ByteArray.empty t135 1).toList != ([] : List UInt8)) = true := bne_iff_ne.mpr c10
              have H' := Aside0.mk H
              clear H
              obtain ⟨Ao13, co13, eo13⟩ := Kd.R_slice HO137.out
              subst eo13
              have p138 : 0 ≤ (0 : Int) := (by omega)
              have q138 : 0 < (t135.length : Int) := of_decide_eq_true (by first | (with_reducible assumption) | assumption)
              obtain ⟨ad138, e138, hx138_0⟩ := Kd.at_string (Kd.R_reads' HO137.out).2.2 0 p138 q138
              cases e138
              have qi138 : (0 < t135.length) = True := eq_true (by omega)
              (try rw [show ((0 : Int)).toNat = 0 from rfl] at hx138_0)
              (try rw [Addr.add_zero'] at hx138_0)
              replace p138 := eq_true p138
              replace q138 := eq_true q138
              have p139 : 0 ≤ (1 : Int) := (by omega)
              have q139 : 1 < (t135.length : Int) := of_decide_eq_true (by first | (with_reducible assumption) | assumption)
              obtain ⟨ad139, e139, hx139_0⟩ := Kd.at_string (Kd.R_reads' HO137.out).2.2 1 p139 q139
              obtain rfl : ad138 = ad139 := (by injection e139)
              (try simp only [show (1 : Int).toNat = 1 from rfl, Nat.reduceMul, Nat.reduceEqDiff, Go.Addr.add, ↓reduceIte] at hx139_0)
              have qi139 : (1 < t135.length) = True := eq_true (by omega)
              (try rw [show ((1 : Int)).toNat = 1 from rfl] at hx139_0)
              replace p139 := eq_true p139
              replace q139 := eq_true q139
              go_wp2
              go_meet
              case rel => exact ⟨_, (true), (by first | rfl | (simp; done) | (simp [*]; done)), H', ⟨by first | omega | exact Nat.le_refl _⟩, ⟨by repeat (first | (with_reducible first | exact HB.out | apply below_alloc | apply pw_below_drewN | apply below_drew1) | exact HB.out)⟩⟩
          · rw [if_neg c9] at H
            exact absurd H (by simp)
        · rw [if_neg c8] at H
          have c8b0 : ((rdOf ByteArray.empty t135 0).toList == ([97] : List UInt8)) = false := beq_eq_false_iff_ne.mpr c8
          have c8b1 : ((rdOf ByteArray.empty t135 0).toList != ([97] : List UInt8)) = true := bne_iff_ne.mpr c8
          have H' := Aside0.mk H
          clear H
          obtain ⟨Ao14, co14, eo14⟩ := Kd.R_slice HO137.out
          subst eo14
          have p138 : 0 ≤ (0 : Int) := (by omega)
          have q138 : 0 < (t135.length : Int) := of_decide_eq_true (by first | (with_reducible assumption) | assumption)
          obtain ⟨ad138, e138, hx138_0⟩ := Kd.at_string (Kd.R_reads' HO137.out).2.2 0 p138 q138
          cases e138
          have qi138 : (0 < t135.length) = True := eq_true (by omega)
          (try rw [show ((0 : Int)).toNat = 0 from rfl] at hx138_0)
          (try rw [Addr.add_zero'] at hx138_0)
          replace p138 := eq_true p138
          replace q138 := eq_true q138
          go_wp2
          go_meet
          case rel => exact ⟨_, (true), (by first | rfl | (simp; done) | (simp [*]; done)), H', ⟨by first | omega | exact Nat.le_refl _⟩, ⟨by repeat (first | (with_reducible first | exact HB.out | apply below_alloc | apply pw_below_drewN | apply below_drew1) | exact HB.out)⟩⟩
      · rw [if_neg c7] at H
        exact absurd H (by simp)
    · rw [if_neg c6] at H
      have c6b0 : ((t135.length : Int) == 4) = false := beq_eq_false_iff_ne.mpr c6
      have c6b1 : ((t135.length : Int) != 4) = true := bne_iff_ne.mpr c6
      (first | rw [c6b0] | (simp only [i64_w, i32_w]; rw [c6b0]) | skip)
      have H' := Aside0.mk H
      clear H
      obtain ⟨Ao15, co15, eo15⟩ := Kd.R_slice HO137.out
      subst eo15
      go_wp2
      go_meet
      case rel => exact ⟨_, (true), (by first | rfl | (simp; done) | (simp [*]; done)), H', ⟨by first | omega | exact Nat.le_refl _⟩, ⟨by repeat (first | (with_reducible first | exact HB.out | apply below_alloc | apply pw_below_drewN | apply below_drew1) | exact HB.out)⟩⟩
  case rest =>
    clear HC4
    try clear c1
    try clear p1
    try clear q1
    try clear hx1
    try clear qi1
    try clear p2
    try clear c3
    try clear c4
    try clear c6
    try clear c6b0
    try clear c6b1
    try clear c7
    try clear c7b0
    try clear c7b1
    try clear c8
    try clear c8b0
    try clear c8b1
    try clear c9
    try clear c9b0
    try clear c9b1
    try clear c10
    try clear c10b0
    try clear c10b1
    try clear c11
    try clear c11b0
    try clear c11b1
    try clear p13
    try clear q13
    try clear hx13
    try clear qi13
    try clear p14
    try clear q14
    try clear hx14
    try clear qi14
    try clear hx138_0
    try clear hx139_0
    try clear hx140_0
    try clear p138
    try clear p139
    try clear p140
    try clear q138
    try clear q139
    try clear q140
    obtain ⟨kq, x29_3, rfl, HA, HJ3, HB⟩ := hcut
    cases kq with
    | zero => exact absurd HA.out (by simp [abacuslaw21_RecordPieces.j0])
    | succ kj3 =>
      have H := HA.out
      clear HA
      simp only [abacuslaw21_RecordPieces.j0] at H
      by_cases c16 : x29_3 = true
      · subst c16
        have H1 : (some false) = some r := by rw [if_pos rfl] at H; exact H
        clear H
        have H := H1
        clear H1
        obtain rfl := Option.some.inj H
        go_wp2
        go_ret
        exact ⟨by first | rfl | (simp [errW_none, errW_some] <;> rfl) | (simp [*, errW_none, errW_some] <;> rfl), by repeat (first | (with_reducible first | exact HB.out | apply below_alloc | apply pw_below_drewN | apply below_drew1) | exact HB.out)⟩
      · replace c16 := Bool.eq_false_iff.mpr c16
        subst c16
        have H1 : ((record_Fields.f a0 a1).bind fun t141 => (if a1.toList = ([32] : List UInt8) then (abacuslaw21_RecordPieces.j1 kj3 a0 a1 t141 true) else (abacuslaw21_RecordPieces.j1 kj3 a0 a1 t141 (a0.toList == ([] : List UInt8))))) = some r := by rw [if_neg (show ¬ (false = true) by decide)] at H; exact H
        clear H
        have H := H1
        clear H1
        replace H := Option.bind_eq_some_iff.mp H
        obtain ⟨t141, A170, H⟩ := H
        replace H : (if a1.toList = ([32] : List UInt8) then (abacuslaw21_RecordPieces.j1 kj3 a0 a1 t141 true) else (abacuslaw21_RecordPieces.j1 kj3 a0 a1 t141 (a0.toList == ([] : List UInt8)))) = some r := H
        have A17 := Aside0.mk A170
        clear A170
        have HC18 := Aside0.mk H
        clear H
        go_upto_region 5 with (first | ((with_reducible refine gate_callee (f := 4) rfl ?_); refine goesL_ (some 32) rfl rfl Tryd.func4 (by kernel_rfl) rfl #[.string a0, .string a1] rfl (by (try simp only [List.map_toArray, List.map_cons, List.map_nil]); first | done | rfl | (simp only [List.length_drop, List.length_take]; rfl)) ?_; (with_reducible refine (record_Fields.calls a0 a1 t141 _ A17.out).mono ?_); rintro e w19 ⟨v142, rfl, ho0, hb⟩; refine ⟨_, rfl, ?_⟩; have n0_ := Aside0.mk (Kd.R_lower ho0 (below_size (by repeat (first | (with_reducible first | exact HB.out | apply below_alloc | apply pw_below_drewN | apply below_drew1) | exact HB.out)))); have n1_ := Aside0.mk (below_step (by repeat (first | (with_reducible first | exact HB.out | apply below_alloc | apply pw_below_drewN | apply below_drew1) | exact HB.out)) hb); clear HB; have HO143 := n0_; have HB := n1_; clear n0_ n1_; (try clear hb); (try clear hb2); (try clear hk); (try clear hi); (try clear ho0)))
        (try simp only [Act.put, List.setIfInBounds_toArray, List.set_cons_zero, List.set_cons_succ])
        go_cut [38] (fun v38 wc => ∃ (kq : Nat) (x38_17 : Bool), v38 = .bool x38_17 ∧ Aside0 (abacuslaw21_RecordPieces.j1 kq a0 a1 t141 x38_17 = some r) ∧ Aside0 (kq ≤ kj3) ∧ Aside0 (Kd.R Kd.string 9 wc w.heap.size (fun _ => True) v142 t141) ∧ Aside0 (Below w.heap.size w wc))
        case first =>
          have H := HC18.out
          clear HC18
          by_cases c20 : a1.toList = ([32] : List UInt8)
          · rw [if_pos c20] at H
            have c20b0 : (a1.toList == ([32] : List UInt8)) = true := beq_iff_eq.mpr c20
            have c20b1 : (a1.toList != ([32] : List UInt8)) = false := bne_eq_false_iff_eq.mpr c20
            clear c20
            (first | rw [c20b0] | (simp only [i64_w, i32_w]; rw [c20b0]) | skip)
            have H' := Aside0.mk H
            clear H
            go_wp2
            go_meet
            case rel => exact ⟨_, (true), (by first | rfl | (simp; done) | (simp [*]; done)), H', ⟨by have := HJ3.out; first | omega | exact Nat.le_refl _⟩, ⟨by (with_reducible repeat (first | apply Kd.R_alloc | apply Kd.R_drewN | apply Kd.R_drew)); exact HO143.out⟩, ⟨by repeat (first | (with_reducible first | exact HB.out | apply below_alloc | apply pw_below_drewN | apply below_drew1) | exact HB.out)⟩⟩
          · rw [if_neg c20] at H
            have c20b0 : (a1.toList == ([32] : List UInt8)) = false := beq_eq_false_iff_ne.mpr c20
            have c20b1 : (a1.toList != ([32] : List UInt8)) = true := bne_iff_ne.mpr c20
            (first | rw [c20b0] | (simp only [i64_w, i32_w]; rw [c20b0]) | skip)
            have H' := Aside0.mk H
            clear H
            go_wp2
            go_meet
            case rel => exact ⟨_, ((a0.toList == ([] : List UInt8))), (by first | rfl | (simp; done) | (simp [*]; done)), H', ⟨by have := HJ3.out; first | omega | exact Nat.le_refl _⟩, ⟨by (with_reducible repeat (first | apply Kd.R_alloc | apply Kd.R_drewN | apply Kd.R_drew)); exact HO143.out⟩, ⟨by repeat (first | (with_reducible first | exact HB.out | apply below_alloc | apply pw_below_drewN | apply below_drew1) | exact HB.out)⟩⟩
        case rest =>
          clear HC18
          try clear c1
          try clear p1
          try clear q1
          try clear hx1
          try clear qi1
          try clear c2
          try clear p2
          try clear c3
          try clear c4
          try clear c6
          try clear c6b0
          try clear c6b1
          try clear c7
          try clear c7b0
          try clear c7b1
          try clear c8
          try clear c8b0
          try clear c8b1
          try clear c9
          try clear c9b0
          try clear c9b1
          try clear c10
          try clear c10b0
          try clear c10b1
          try clear c11
          try clear c11b0
          try clear c11b1
          try clear p13
          try clear q13
          try clear hx13
          try clear qi13
          try clear p14
          try clear q14
          try clear hx14
          try clear qi14
          try clear c16
          try clear c20
          try clear c20b0
          try clear c20b1
          try clear hx138_0
          try clear hx139_0
          try clear hx140_0
          try clear p1
          try clear p13
          try clear p138
          try clear p139
          try clear p14
          try clear p140
          try clear p2
          try clear q1
          try clear q13
          try clear q138
          try clear q139
          try clear q14
          try clear q140
          obtain ⟨kq, x38_17, rfl, HA, HJ17, HO_5, HB⟩ := hcut
          cases kq with
          | zero => exact absurd HA.out (by simp [abacuslaw21_RecordPieces.j1])
          | succ kj17 =>
            have H := HA.out
            clear HA
            simp only [abacuslaw21_RecordPieces.j1] at H
            by_cases c21 : x38_17 = true
            · subst c21
              have H1 : (if a1.toList = ([32] : List UInt8) then (some true) else (some ((t141.length : Int) == 0))) = some r := by rw [if_pos rfl] at H; exact H
              clear H
              have H := H1
              clear H1
              by_cases c22 : a1.toList = ([32] : List UInt8)
              · rw [if_pos c22] at H
                have c22b0 : (a1.toList == ([32] : List UInt8)) = true := beq_iff_eq.mpr c22
                have c22b1 : (a1.toList != ([32] : List UInt8)) = false := bne_eq_false_iff_eq.mpr c22
                clear c22
                obtain rfl := Option.some.inj H
                go_wp2
                go_ret
                exact ⟨by first | rfl | (simp [errW_none, errW_some] <;> rfl) | (simp [*, errW_none, errW_some] <;> rfl), by repeat (first | (with_reducible first | exact HB.out | apply below_alloc | apply pw_below_drewN | apply below_drew1) | exact HB.out)⟩
              · rw [if_neg c22] at H
                have c22b0 : (a1.toList == ([32] : List UInt8)) = false := beq_eq_false_iff_ne.mpr c22
                have c22b1 : (a1.toList != ([32] : List UInt8)) = true := bne_iff_ne.mpr c22
                obtain rfl := Option.some.inj H
                obtain ⟨Ao23, co23, eo23⟩ := Kd.R_slice HO_5.out
                subst eo23
                go_wp2
                go_ret
                exact ⟨by first | rfl | (simp [errW_none, errW_some] <;> rfl) | (simp [*, errW_none, errW_some] <;> rfl), by repeat (first | (with_reducible first | exact HB.out | apply below_alloc | apply pw_below_drewN | apply below_drew1) | exact HB.out)⟩
            · replace c21 := Bool.eq_false_iff.mpr c21
              subst c21
              have H1 : (if (t141.length : Int) = 0 then (abacuslaw21_RecordPieces.j2 kj17 a0 a1 t141 true) else (if (t141.length : Int) > 32768 then (abacuslaw21_RecordPieces.j2 kj17 a0 a1 t141 true) else ((abacuslaw21_joined.f kj17 t141 a1).bind fun t144 => (abacuslaw21_RecordPieces.j2 kj17 a0 a1 t141 (t144.toList != a0.toList))))) = some r := by rw [if_neg (show ¬ (false = true) by decide)] at H; exact H
              clear H
              have H := H1
              clear H1
              have HC24 := Aside0.mk H
              clear H
              go_upto_region 7 with (fail)
              go_cut [60] (fun v60 wc => ∃ (kq : Nat) (x60_23 : Bool), v60 = .bool x60_23 ∧ Aside0 (abacuslaw21_RecordPieces.j2 kq a0 a1 t141 x60_23 = some r) ∧ Aside0 (kq ≤ kj17) ∧ Aside0 (Kd.R Kd.string 9 wc w.heap.size (fun _ => True) v142 t141) ∧ Aside0 (Below w.heap.size w wc))
              case first =>
                have H := HC24.out
                clear HC24
                by_cases c25 : (t141.length : Int) = 0
                · rw [if_pos c25] at H
                  have c25b0 : ((t141.length : Int) == 0) = true := beq_iff_eq.mpr c25
                  have c25b1 : ((t141.length : Int) != 0) = false := bne_eq_false_iff_eq.mpr c25
                  clear c25
                  (first | rw [c25b0] | (simp only [i64_w, i32_w]; rw [c25b0]) | skip)
                  have H' := Aside0.mk H
                  clear H
                  obtain ⟨Ao26, co26, eo26⟩ := Kd.R_slice HO_5.out
                  subst eo26
                  go_wp2
                  go_meet
                  case rel => exact ⟨_, (true), (by first | rfl | (simp; done) | (simp [*]; done)), H', ⟨by have := HJ3.out; have := HJ17.out; first | omega | exact Nat.le_refl _⟩, ⟨by (with_reducible repeat (first | apply Kd.R_alloc | apply Kd.R_drewN | apply Kd.R_drew)); exact HO_5.out⟩, ⟨by repeat (first | (with_reducible first | exact HB.out | apply below_alloc | apply pw_below_drewN | apply below_drew1) | exact HB.out)⟩⟩
                · rw [if_neg c25] at H
                  have c25b0 : ((t141.length : Int) == 0) = false := beq_eq_false_iff_ne.mpr c25
                  have c25b1 : ((t141.length : Int) != 0) = true := bne_iff_ne.mpr c25
                  have c25b2 : ¬ (t141 = []) := fun h_ => c25 (by rw [h_]; rfl)
                  (first | rw [c25b0] | (simp only [i64_w, i32_w]; rw [c25b0]) | skip)
                  by_cases c27 : (t141.length : Int) > 32768
                  · rw [if_pos c27] at H
                    have c27b0 : decide (32768 < (t141.length : Int)) = true := decide_eq_true c27
                    have c27b1 : decide (32768 < t141.length) = true := decide_eq_true (by omega)
                    clear c27
                    have H' := Aside0.mk H
                    clear H
                    obtain ⟨Ao28, co28, eo28⟩ := Kd.R_slice HO_5.out
                    subst eo28
                    go_wp2
                    go_meet
                    case rel => exact ⟨_, (true), (by first | rfl | (simp; done) | (simp [*]; done)), H', ⟨by have := HJ3.out; have := HJ17.out; first | omega | exact Nat.le_refl _⟩, ⟨by (with_reducible repeat (first | apply Kd.R_alloc | apply Kd.R_drewN | apply Kd.R_drew)); exact HO_5.out⟩, ⟨by repeat (first | (with_reducible first | exact HB.out | apply below_alloc | apply pw_below_drewN | apply below_drew1) | exact HB.out)⟩⟩
                  · rw [if_neg c27] at H
                    have c27b0 : decide (32768 < (t141.length : Int)) = false := decide_eq_false c27
                    have c27b1 : decide (32768 < t141.length) = false := decide_eq_false (by omega)
                    clear c27
                    replace H := Option.bind_eq_some_iff.mp H
                    obtain ⟨t144, A290, H⟩ := H
                    replace H : (abacuslaw21_RecordPieces.j2 kj17 a0 a1 t141 (t144.toList != a0.toList)) = some r := H
                    have A29 := Aside0.mk A290
                    clear A290
                    have H' := Aside0.mk H
                    clear H
                    obtain ⟨Ao30, co30, eo30⟩ := Kd.R_slice HO_5.out
                    subst eo30
                    go_wp2_with (first | (go_at_call 5; (with_reducible refine (abacuslaw21_joined.calls kj17 _ _ t141 a1 t144 _ ?side1 ?side2 A29.out).mono ?_); (case side1 => repeat (first | exact (Kd.R_reads' HO_5.out).2.2 | (with_reducible refine Kd.C_alloc ?_ _) | (with_reducible refine Kd.C_drewN ?_ _) | (with_reducible refine Kd.C_drew ?_))); (case side2 => exact (Kd.R_reads' HO_5.out).2.1); rintro e w31 ⟨rfl, hb⟩; have n0_ := Aside0.mk (Kd.R_below (by (with_reducible repeat (first | apply Kd.R_alloc | apply Kd.R_drewN | apply Kd.R_drew)); exact HO_5.out) hb); have n1_ := Aside0.mk (below_step (by repeat (first | (with_reducible first | exact HB.out | apply below_alloc | apply pw_below_drewN | apply below_drew1) | exact HB.out)) hb); clear HO_5; clear HB; have HO_5 := n0_; have HB := n1_; clear n0_ n1_; (try clear hb); (try clear hb2); (try clear hk); (try clear hi)))
                    go_meet
                    case rel => exact ⟨_, ((t144.toList != a0.toList)), (by first | rfl | (simp; done) | (simp [*]; done)), H', ⟨by have := HJ3.out; have := HJ17.out; first | omega | exact Nat.le_refl _⟩, ⟨by (with_reducible repeat (first | apply Kd.R_alloc | apply Kd.R_drewN | apply Kd.R_drew)); exact HO_5.out⟩, ⟨by repeat (first | (with_reducible first | exact HB.out | apply below_alloc | apply pw_below_drewN | apply below_drew1) | exact HB.out)⟩⟩
              case rest =>
                clear HC24
                try clear c1
                try clear p1
                try clear q1
                try clear hx1
                try clear qi1
                try clear c2
                try clear p2
                try clear c3
                try clear c4
                try clear c6
                try clear c6b0
                try clear c6b1
                try clear c7
                try clear c7b0
                try clear c7b1
                try clear c8
                try clear c8b0
                try clear c8b1
                try clear c9
                try clear c9b0
                try clear c9b1
                try clear c10
                try clear c10b0
                try clear c10b1
                try clear c11
                try clear c11b0
                try clear c11b1
                try clear p13
                try clear q13
                try clear hx13
                try clear qi13
                try clear p14
                try clear q14
                try clear hx14
                try clear qi14
                try clear c16
                try clear c20
                try clear c20b0
                try clear c20b1
                try clear c21
                try clear c22
                try clear c22b0
                try clear c22b1
                try clear c25
                try clear c25b0
                try clear c25b1
                try clear c25b2
                try clear c27
                try clear c27b0
                try clear c27b1
                try clear hx138_0
                try clear hx139_0
                try clear hx140_0
                try clear p1
                try clear p13
                try clear p138
                try clear p139
                try clear p14
                try clear p140
                try clear p2
                try clear q1
                try clear q13
                try clear q138
                try clear q139
                try clear q14
                try clear q140
                obtain ⟨kq, x60_23, rfl, HA, HJ23, HO_5, HB⟩ := hcut
                cases kq with
                | zero => exact absurd HA.out (by simp [abacuslaw21_RecordPieces.j2])
                | succ kj23 =>
                  have H := HA.out
                  clear HA
                  simp only [abacuslaw21_RecordPieces.j2] at H
                  by_cases c32 : x60_23 = true
                  · subst c32
                    have H1 : (some false) = some r := by rw [if_pos rfl] at H; exact H
                    clear H
                    have H := H1
                    clear H1
                    obtain rfl := Option.some.inj H
                    go_wp2
                    go_ret
                    exact ⟨by first | rfl | (simp [errW_none, errW_some] <;> rfl) | (simp [*, errW_none, errW_some] <;> rfl), by repeat (first | (with_reducible first | exact HB.out | apply below_alloc | apply pw_below_drewN | apply below_drew1) | exact HB.out)⟩
                  · replace c32 := Bool.eq_false_iff.mpr c32
                    subst c32
                    have H1 : (abacuslaw21_RecordPieces.l0 kj23 a0 a1 t141 0) = some r := by rw [if_neg (show ¬ (false = true) by decide)] at H; exact H
                    clear H
                    have H := H1
                    clear H1
                    have H' := Aside0.mk H
                    clear H
                    go_wp2
                    go_loopg [6] kj23 (fun kq v6 w' => ∃ (x6_4 : Int), v6 = .int .i64 x6_4 ∧ Aside0 (abacuslaw21_RecordPieces.l0 kq a0 a1 t141 x6_4 = some r) ∧ Aside0 (kq ≤ kj23) ∧ Aside0 (Kd.R Kd.string 9 w' w.heap.size (fun _ => True) v142 t141) ∧ Aside0 (Below w.heap.size w w'))
                    case atStart => exact ⟨(0), (by first | rfl | (simp; done) | (simp [*]; done)), H', ⟨Nat.le_refl _⟩, ⟨by (with_reducible repeat (first | apply Kd.R_alloc | apply Kd.R_drewN | apply Kd.R_drew)); exact HO_5.out⟩, ⟨by repeat (first | (with_reducible first | exact HB.out | apply below_alloc | apply pw_below_drewN | apply below_drew1) | exact HB.out)⟩⟩
                    case round =>
                      clear H'
                      try clear c1
                      try clear p1
                      try clear q1
                      try clear hx1
                      try clear qi1
                      try clear c2
                      try clear p2
                      try clear c3
                      try clear c4
                      try clear c6
                      try clear c6b0
                      try clear c6b1
                      try clear c7
                      try clear c7b0
                      try clear c7b1
                      try clear c8
                      try clear c8b0
                      try clear c8b1
                      try clear c9
                      try clear c9b0
                      try clear c9b1
                      try clear c10
                      try clear c10b0
                      try clear c10b1
                      try clear c11
                      try clear c11b0
                      try clear c11b1
                      try clear p13
                      try clear q13
                      try clear hx13
                      try clear qi13
                      try clear p14
                      try clear q14
                      try clear hx14
                      try clear qi14
                      try clear c16
                      try clear c20
                      try clear c20b0
                      try clear c20b1
                      try clear c21
                      try clear c22
                      try clear c22b0
                      try clear c22b1
                      try clear c25
                      try clear c25b0
                      try clear c25b1
                      try clear c25b2
                      try clear c27
                      try clear c27b0
                      try clear c27b1
                      try clear c32
                      try clear hx138_0
                      try clear hx139_0
                      try clear hx140_0
                      try clear p1
                      try clear p13
                      try clear p138
                      try clear p139
                      try clear p14
                      try clear p140
                      try clear p2
                      try clear q1
                      try clear q13
                      try clear q138
                      try clear q139
                      try clear q14
                      try clear q140
                      obtain ⟨x6_4, rfl, HA, HK4, HO_5, HB⟩ := hrel
                      cases gk with
                      | zero => exact absurd HA.out (by simp [abacuslaw21_RecordPieces.l0])
                      | succ k4 =>
                        have H := HA.out
                        clear HA
                        simp only [abacuslaw21_RecordPieces.l0] at H
                        have HC33 := Aside0.mk H
                        clear H
                        go_upto_region 10 with (fail)
                        go_cut [68] (fun v68 wc => ∃ (kq : Nat) (x68_32 : Bool), v68 = .bool x68_32 ∧ Aside0 (abacuslaw21_RecordPieces.j4 kq a0 a1 t141 x6_4 x68_32 = some r) ∧ Aside0 (kq ≤ k4) ∧ Aside0 (Kd.R Kd.string 9 wc w.heap.size (fun _ => True) v142 t141) ∧ Aside0 (Below w.heap.size w wc))
                        case first =>
                          have H := HC33.out
                          clear HC33
                          by_cases c34 : x6_4 < (t141.length : Int)
                          · rw [if_pos c34] at H
                            have c34b0 : decide (x6_4 < (t141.length : Int)) = true := decide_eq_true c34
                            clear c34
                            (first | rw [c34b0] | (simp only [i64_w, i32_w]; rw [c34b0]) | skip)
                            have H' := Aside0.mk H
                            clear H
                            obtain ⟨Ao35, co35, eo35⟩ := Kd.R_slice HO_5.out
                            subst eo35
                            go_wp2
                            go_meet
                            case rel => exact ⟨_, (decide (x6_4 < 32767)), (by first | rfl | (simp; done) | (simp [*]; done)), H', ⟨by have := HJ3.out; have := HJ17.out; have := HJ23.out; have := HK4.out; first | omega | exact Nat.le_refl _⟩, ⟨by (with_reducible repeat (first | apply Kd.R_alloc | apply Kd.R_drewN | apply Kd.R_drew)); exact HO_5.out⟩, ⟨by repeat (first | (with_reducible first | exact HB.out | apply below_alloc | apply pw_below_drewN | apply below_drew1) | exact HB.out)⟩⟩
                          · rw [if_neg c34] at H
                            have c34b0 : decide (x6_4 < (t141.length : Int)) = false := decide_eq_false c34
                            clear c34
                            (first | rw [c34b0] | (simp only [i64_w, i32_w]; rw [c34b0]) | skip)
                            have H' := Aside0.mk H
                            clear H
                            obtain ⟨Ao36, co36, eo36⟩ := Kd.R_slice HO_5.out
                            subst eo36
                            go_wp2
                            go_meet
                            case rel => exact ⟨_, (false), (by first | rfl | (simp; done) | (simp [*]; done)), H', ⟨by have := HJ3.out; have := HJ17.out; have := HJ23.out; have := HK4.out; first | omega | exact Nat.le_refl _⟩, ⟨by (with_reducible repeat (first | apply Kd.R_alloc | apply Kd.R_drewN | apply Kd.R_drew)); exact HO_5.out⟩, ⟨by repeat (first | (with_reducible first | exact HB.out | apply below_alloc | apply pw_below_drewN | apply below_drew1) | exact HB.out)⟩⟩
                        case rest =>
                          clear HC33
                          try clear c1
                          try clear p1
                          try clear q1
                          try clear hx1
                          try clear qi1
                          try clear c2
                          try clear p2
                          try clear c3
                          try clear c4
                          try clear c6
                          try clear c6b0
                          try clear c6b1
                          try clear c7
                          try clear c7b0
                          try clear c7b1
                          try clear c8
                          try clear c8b0
                          try clear c8b1
                          try clear c9
                          try clear c9b0
                          try clear c9b1
                          try clear c10
                          try clear c10b0
                          try clear c10b1
                          try clear c11
                          try clear c11b0
                          try clear c11b1
                          try clear p13
                          try clear q13
                          try clear hx13
                          try clear qi13
                          try clear p14
                          try clear q14
                          try clear hx14
                          try clear qi14
                          try clear c16
                          try clear c20
                          try clear c20b0
                          try clear c20b1
                          try clear c21
                          try clear c22
                          try clear c22b0
                          try clear c22b1
                          try clear c25
                          try clear c25b0
                          try clear c25b1
                          try clear c25b2
                          try clear c27
                          try clear c27b0
                          try clear c27b1
                          try clear c32
                          try clear c34
                          try clear c34b0
                          try clear hx138_0
                          try clear hx139_0
                          try clear hx140_0
                          try clear p1
                          try clear p13
                          try clear p138
                          try clear p139
                          try clear p14
                          try clear p140
                          try clear p2
                          try clear q1
                          try clear q13
                          try clear q138
                          try clear q139
                          try clear q14
                          try clear q140
                          obtain ⟨kq, x68_32, rfl, HA, HJ32, HO_5, HB⟩ := hcut
                          cases kq with
                          | zero => exact absurd HA.out (by simp [abacuslaw21_RecordPieces.j4])
                          | succ kj32 =>
                            have H := HA.out
                            clear HA
                            simp only [abacuslaw21_RecordPieces.j4] at H
                            by_cases c37 : x68_32 = true
                            · subst c37
                              have H1 : (if a1.toList = ([] : List UInt8) then (if 0 ≤ x6_4 then (if x6_4 < (t141.length : Int) then (if ((rdOf ByteArray.empty t141 x6_4).size : Int) = 1 then (abacuslaw21_RecordPieces.l0 kj32 a0 a1 t141 (wrap64 (x6_4 + 1))) else (some false)) else (none)) else (none)) else (if 0 ≤ x6_4 then (if x6_4 < (t141.length : Int) then ((abacuslaw21_holds.f kj32 (rdOf ByteArray.empty t141 x6_4) a1).bind fun t147 => (if t147 = true then (some false) else (abacuslaw21_RecordPieces.l0 kj32 a0 a1 t141 (wrap64 (x6_4 + 1))))) else (none)) else (none))) = some r := by rw [if_pos rfl] at H; exact H
                              clear H
                              have H := H1
                              clear H1
                              by_cases c38 : a1.toList = ([] : List UInt8)
                              · rw [if_pos c38] at H
                                have c38b0 : (a1.toList == ([] : List UInt8)) = true := beq_iff_eq.mpr c38
                                have c38b1 : (a1.toList != ([] : List UInt8)) = false := bne_eq_false_iff_eq.mpr c38
                                clear c38
                                by_cases c39 : 0 ≤ x6_4
                                · rw [if_pos c39] at H
                                  have c39b0 : decide (0 ≤ x6_4) = true := decide_eq_true c39
                                  clear c39
                                  by_cases c40 : x6_4 < (t141.length : Int)
                                  · rw [if_pos c40] at H
                                    have c40b0 : decide (x6_4 < (t141.length : Int)) = true := decide_eq_true c40
                                    clear c40
                                    by_cases c41 : ((rdOf ByteArray.empty t141 x6_4).size : Int) = 1
                                    · rw [if_pos c41] at H
                                      have c41b0 : (((rdOf ByteArray.empty t141 x6_4).size : Int) == 1) = true := beq_iff_eq.mpr c41
                                      have c41b1 : (((rdOf ByteArray.empty t141 x6_4).size : Int) != 1) = false := bne_eq_false_iff_eq.mpr c41
                                      clear c41
                                      have H' := Aside0.mk H
                                      clear H
                                      obtain ⟨Ao42, co42, eo42⟩ := Kd.R_slice HO_5.out
                                      subst eo42
                                      have p145 : 0 ≤ (x6_4 : Int) := of_decide_eq_true (by first | (with_reducible assumption) | assumption)
                                      have q145 : x6_4 < (t141.length : Int) := of_decide_eq_true (by first | (with_reducible assumption) | assumption)
                                      obtain ⟨ad145, e145, hx145_0⟩ := Kd.at_string (Kd.R_reads' HO_5.out).2.2 x6_4 p145 q145
                                      cases e145
                                      replace p145 := eq_true p145
                                      replace q145 := eq_true q145
                                      go_wp2
                                      go_roundg kj32
                                      case measure => have := HJ3.out; have := HJ17.out; have := HJ23.out; have := HK4.out; have := HJ32.out; omega
                                      case rel => exact ⟨(wrap64 (x6_4 + 1)), (by first | rfl | (simp; done) | (simp [*]; done)), H', ⟨by have := HJ3.out; have := HJ17.out; have := HJ23.out; have := HK4.out; have := HJ32.out; omega⟩, ⟨by (with_reducible repeat (first | apply Kd.R_alloc | apply Kd.R_drewN | apply Kd.R_drew)); exact HO_5.out⟩, ⟨by repeat (first | (with_reducible first | exact HB.out | apply below_alloc | apply pw_below_drewN | apply below_drew1) | exact HB.out)⟩⟩
                                    · rw [if_neg c41] at H
                                      have c41b0 : (((rdOf ByteArray.empty t141 x6_4).size : Int) == 1) = false := beq_eq_false_iff_ne.mpr c41
                                      have c41b1 : (((rdOf ByteArray.empty t141 x6_4).size : Int) != 1) = true := bne_iff_ne.mpr c41
                                      obtain rfl := Option.some.inj H
                                      obtain ⟨Ao43, co43, eo43⟩ := Kd.R_slice HO_5.out
                                      subst eo43
                                      have p145 : 0 ≤ (x6_4 : Int) := of_decide_eq_true (by first | (with_reducible assumption) | assumption)
                                      have q145 : x6_4 < (t141.length : Int) := of_decide_eq_true (by first | (with_reducible assumption) | assumption)
                                      obtain ⟨ad145, e145, hx145_0⟩ := Kd.at_string (Kd.R_reads' HO_5.out).2.2 x6_4 p145 q145
                                      cases e145
                                      replace p145 := eq_true p145
                                      replace q145 := eq_true q145
                                      go_wp2
                                      go_ret
                                      exact ⟨by first | rfl | (simp [errW_none, errW_some] <;> rfl) | (simp [*, errW_none, errW_some] <;> rfl), by repeat (first | (with_reducible first | exact HB.out | apply below_alloc | apply pw_below_drewN | apply below_drew1) | exact HB.out)⟩
                                  · rw [if_neg c40] at H
                                    exact absurd H (by simp)
                                · rw [if_neg c39] at H
                                  exact absurd H (by simp)
                              · rw [if_neg c38] at H
                                have c38b0 : (a1.toList == ([] : List UInt8)) = false := beq_eq_false_iff_ne.mpr c38
                                have c38b1 : (a1.toList != ([] : List UInt8)) = true := bne_iff_ne.mpr c38
                                by_cases c44 : 0 ≤ x6_4
                                · rw [if_pos c44] at H
                                  have c44b0 : decide (0 ≤ x6_4) = true := decide_eq_true c44
                                  clear c44
                                  by_cases c45 : x6_4 < (t141.length : Int)
                                  · rw [if_pos c45] at H
                                    have c45b0 : decide (x6_4 < (t141.length : Int)) = true := decide_eq_true c45
                                    clear c45
                                    replace H := Option.bind_eq_some_iff.mp H
                                    obtain ⟨t147, A460, H⟩ := H
                                    replace H : (if t147 = true then (some false) else (abacuslaw21_RecordPieces.l0 kj32 a0 a1 t141 (wrap64 (x6_4 + 1)))) = some r := H
                                    have A46 := Aside0.mk A460
                                    clear A460
                                    by_cases c47 : t147 = true
                                    · subst c47
                                      have H1 : (some false) = some r := by rw [if_pos rfl] at H; exact H
                                      clear H
                                      have H := H1
                                      clear H1
                                      obtain rfl := Option.some.inj H
                                      obtain ⟨Ao48, co48, eo48⟩ := Kd.R_slice HO_5.out
                                      subst eo48
                                      have p146 : 0 ≤ (x6_4 : Int) := of_decide_eq_true (by first | (with_reducible assumption) | assumption)
                                      have q146 : x6_4 < (t141.length : Int) := of_decide_eq_true (by first | (with_reducible assumption) | assumption)
                                      obtain ⟨ad146, e146, hx146_0⟩ := Kd.at_string (Kd.R_reads' HO_5.out).2.2 x6_4 p146 q146
                                      cases e146
                                      replace p146 := eq_true p146
                                      replace q146 := eq_true q146
                                      go_wp2_with (first | (go_at_call 6; (with_reducible refine (abacuslaw21_holds.calls kj32 (rdOf ByteArray.empty t141 x6_4) a1 true _ A46.out).mono ?_); rintro e w' ⟨rfl, ⟨nd, rfl⟩⟩))
                                      go_ret
                                      exact ⟨by first | rfl | (simp [errW_none, errW_some] <;> rfl) | (simp [*, errW_none, errW_some] <;> rfl), by repeat (first | (with_reducible first | exact HB.out | apply below_alloc | apply pw_below_drewN | apply below_drew1) | exact HB.out)⟩
                                    · replace c47 := Bool.eq_false_iff.mpr c47
                                      subst c47
                                      have H1 : (abacuslaw21_RecordPieces.l0 kj32 a0 a1 t141 (wrap64 (x6_4 + 1))) = some r := by rw [if_neg (show ¬ (false = true) by decide)] at H; exact H
                                      clear H
                                      have H := H1
                                      clear H1
                                      have H' := Aside0.mk H
                                      clear H
                                      obtain ⟨Ao49, co49, eo49⟩ := Kd.R_slice HO_5.out
                                      subst eo49
                                      have p146 : 0 ≤ (x6_4 : Int) := of_decide_eq_true (by first | (with_reducible assumption) | assumption)
                                      have q146 : x6_4 < (t141.length : Int) := of_decide_eq_true (by first | (with_reducible assumption) | assumption)
                                      obtain ⟨ad146, e146, hx146_0⟩ := Kd.at_string (Kd.R_reads' HO_5.out).2.2 x6_4 p146 q146
                                      cases e146
                                      replace p146 := eq_true p146
                                      replace q146 := eq_true q146
                                      go_wp2_with (first | (go_at_call 6; (with_reducible refine (abacuslaw21_holds.calls kj32 (rdOf ByteArray.empty t141 x6_4) a1 false _ A46.out).mono ?_); rintro e w' ⟨rfl, ⟨nd, rfl⟩⟩))
                                      go_roundg kj32
                                      case measure => have := HJ3.out; have := HJ17.out; have := HJ23.out; have := HK4.out; have := HJ32.out; omega
                                      case rel => exact ⟨(wrap64 (x6_4 + 1)), (by first | rfl | (simp; done) | (simp [*]; done)), H', ⟨by have := HJ3.out; have := HJ17.out; have := HJ23.out; have := HK4.out; have := HJ32.out; omega⟩, ⟨by (with_reducible repeat (first | apply Kd.R_alloc | apply Kd.R_drewN | apply Kd.R_drew)); exact HO_5.out⟩, ⟨by repeat (first | (with_reducible first | exact HB.out | apply below_alloc | apply pw_below_drewN | apply below_drew1) | exact HB.out)⟩⟩
                                  · rw [if_neg c45] at H
                                    exact absurd H (by simp)
                                · rw [if_neg c44] at H
                                  exact absurd H (by simp)
                            · replace c37 := Bool.eq_false_iff.mpr c37
                              subst c37
                              have H1 : ((chars_Split.f kj32 a0 a1).bind fun t148 => (if (t148.length : Int) > 32768 then (some true) else ((abacuslaw21_sameTexts.f kj32 t141 t148).bind fun t151 => (some t151)))) = some r := by rw [if_neg (show ¬ (false = true) by decide)] at H; exact H
                              clear H
                              have H := H1
                              clear H1
                              replace H := Option.bind_eq_some_iff.mp H
                              obtain ⟨t148, A500, H⟩ := H
                              replace H : (if (t148.length : Int) > 32768 then (some true) else ((abacuslaw21_sameTexts.f kj32 t141 t148).bind fun t151 => (some t151))) = some r := H
                              have A50 := Aside0.mk A500
                              clear A500
                              by_cases c51 : (t148.length : Int) > 32768
                              · rw [if_pos c51] at H
                                have c51b0 : decide (32768 < (t148.length : Int)) = true := decide_eq_true c51
                                have c51b1 : decide (32768 < t148.length) = true := decide_eq_true (by omega)
                                clear c51
                                obtain rfl := Option.some.inj H
                                go_wp2_with (first | ((with_reducible refine gate_callee (f := 7) rfl ?_); refine goesL_ (some 95) rfl rfl Tryd.func7 (by kernel_rfl) rfl #[.string a0, .string a1] rfl (by (try simp only [List.map_toArray, List.map_cons, List.map_nil]); first | done | rfl | (simp only [List.length_drop, List.length_take]; rfl)) ?_; (with_reducible refine (chars_Split.calls kj32 a0 a1 t148 _ A50.out).mono ?_); rintro e w52 ⟨v149, rfl, ho0, hb⟩; refine ⟨_, rfl, ?_⟩; have n0_ := Aside0.mk (Kd.R_elder' (by (with_reducible repeat (first | apply Kd.R_alloc | apply Kd.R_drewN | apply Kd.R_drew)); exact HO_5.out) (Kd.R_base ho0) hb); have n1_ := Aside0.mk (Kd.R_lower (Kd.R_new' ho0 (Kd.R_lt (by (with_reducible repeat (first | apply Kd.R_alloc | apply Kd.R_drewN | apply Kd.R_drew)); exact HO_5.out))) (below_size (by repeat (first | (with_reducible first | exact HB.out | apply below_alloc | apply pw_below_drewN | apply below_drew1) | exact HB.out)))); have n2_ := Aside0.mk (below_step (by repeat (first | (with_reducible first | exact HB.out | apply below_alloc | apply pw_below_drewN | apply below_drew1) | exact HB.out)) hb); clear HO_5; clear HB; have HO_5 := n0_; have HO150 := n1_; have HB := n2_; clear n0_ n1_ n2_; (try clear hb); (try clear hb2); (try clear hk); (try clear hi); (try clear ho0); obtain ⟨Ao53, co53, eo53⟩ := Kd.R_slice HO150.out; subst eo53))
                                go_ret
                                exact ⟨by first | rfl | (simp [errW_none, errW_some] <;> rfl) | (simp [*, errW_none, errW_some] <;> rfl), by repeat (first | (with_reducible first | exact HB.out | apply below_alloc | apply pw_below_drewN | apply below_drew1) | exact HB.out)⟩
                              · rw [if_neg c51] at H
                                have c51b0 : decide (32768 < (t148.length : Int)) = false := decide_eq_false c51
                                have c51b1 : decide (32768 < t148.length) = false := decide_eq_false (by omega)
                                clear c51
                                replace H := Option.bind_eq_some_iff.mp H
                                obtain ⟨t151, A540, H⟩ := H
                                replace H : (some t151) = some r := H
                                have A54 := Aside0.mk A540
                                clear A540
                                obtain rfl := Option.some.inj H
                                go_wp2_with (first | ((with_reducible refine gate_callee (f := 7) rfl ?_); refine goesL_ (some 95) rfl rfl Tryd.func7 (by kernel_rfl) rfl #[.string a0, .string a1] rfl (by (try simp only [List.map_toArray, List.map_cons, List.map_nil]); first | done | rfl | (simp only [List.length_drop, List.length_take]; rfl)) ?_; (with_reducible refine (chars_Split.calls kj32 a0 a1 t148 _ A50.out).mono ?_); rintro e w55 ⟨v149, rfl, ho0, hb⟩; refine ⟨_, rfl, ?_⟩; have n0_ := Aside0.mk (Kd.R_elder' (by (with_reducible repeat (first | apply Kd.R_alloc | apply Kd.R_drewN | apply Kd.R_drew)); exact HO_5.out) (Kd.R_base ho0) hb); have n1_ := Aside0.mk (Kd.R_lower (Kd.R_new' ho0 (Kd.R_lt (by (with_reducible repeat (first | apply Kd.R_alloc | apply Kd.R_drewN | apply Kd.R_drew)); exact HO_5.out))) (below_size (by repeat (first | (with_reducible first | exact HB.out | apply below_alloc | apply pw_below_drewN | apply below_drew1) | exact HB.out)))); have n2_ := Aside0.mk (below_step (by repeat (first | (with_reducible first | exact HB.out | apply below_alloc | apply pw_below_drewN | apply below_drew1) | exact HB.out)) hb); clear HO_5; clear HB; have HO_5 := n0_; have HO150 := n1_; have HB := n2_; clear n0_ n1_ n2_; (try clear hb); (try clear hb2); (try clear hk); (try clear hi); (try clear ho0); obtain ⟨Ao56, co56, eo56⟩ := Kd.R_slice HO150.out; subst eo56; obtain ⟨Ao57, co57, eo57⟩ := Kd.R_slice HO_5.out; subst eo57) | (go_at_call 8; (with_reducible refine (abacuslaw21_sameTexts.calls kj32 _ _ t141 _ _ t148 t151 _ ?side1 ?side2 ?side3 ?side4 A54.out).mono ?_); (case side1 => repeat (first | exact (Kd.R_reads' HO_5.out).2.2 | (with_reducible refine Kd.C_alloc ?_ _) | (with_reducible refine Kd.C_drewN ?_ _) | (with_reducible refine Kd.C_drew ?_))); (case side2 => exact (Kd.R_reads' HO_5.out).2.1); (case side3 => repeat (first | exact (Kd.R_reads' HO150.out).2.2 | (with_reducible refine Kd.C_alloc ?_ _) | (with_reducible refine Kd.C_drewN ?_ _) | (with_reducible refine Kd.C_drew ?_))); (case side4 => exact (Kd.R_reads' HO150.out).2.1); rintro e w' ⟨rfl, ⟨nd, rfl⟩⟩))
                                go_ret
                                exact ⟨by first | rfl | (simp [errW_none, errW_some] <;> rfl) | (simp [*, errW_none, errW_some] <;> rfl), by repeat (first | (with_reducible first | exact HB.out | apply below_alloc | apply pw_below_drewN | apply below_drew1) | exact HB.out)⟩

end Go.Proofs.YtlklnenlhmhcaaaDoor.PXRecordPieces
